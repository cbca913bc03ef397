/- Walks: what functions of the program come to, as the pure interpreter runs them. -/
import Derived.Test.YtkkdkhacligaoaaGreatDoorW9
set_option linter.unusedSimpArgs false
set_option linter.unusedVariables false
namespace Go.Proofs.YtkkdkhacligaoaaGreatDoor.law
open Go.PI
/-! ### Rising, each once -/
theorem srt_of {zs : List Int} (h : zs.Pairwise (· < ·)) : (zs.mergeSort fun x y => decide (x ≤ y)) = zs :=
  List.mergeSort_of_pairwise (h.imp fun {a b} hab => decide_eq_true (by omega))
theorem comp_of {zs : List Int} (h : zs.Pairwise (· < ·)) : Lib.compact zs = zs := by
  refine Lib.compact_all zs fun j hj => ?_
  by_cases h0 : j = 0
  · subst h0; simp [Lib.keeps]
  · refine Lib.keeps_pos ?_
    have := List.pairwise_iff_getElem.1 h (j - 1) j (by omega) hj (by omega)
    rw [getElem!_pos zs.toArray j (by simpa using hj), getElem!_pos zs.toArray (j - 1) (by simp; omega)]
    simp only [List.getElem_toArray]
    omega
theorem thin_of {zs : List Int} (h : zs.Pairwise (· < ·)) : thinL zs = zs := by
  unfold thinL
  rw [srt_of h, comp_of h]
theorem get_arr (zs : List Int) {j : Nat} (hj : j < zs.length) : zs.toArray[j]! = zs[j] := by
  rw [getElem!_pos zs.toArray j (by simpa using hj)]; simp
theorem comp_mem {zs : List Int} (y : Int) : y ∈ Lib.compact zs ↔ y ∈ zs := by
  unfold Lib.compact Lib.compactUpTo
  simp only [List.mem_map, List.mem_filter, List.mem_range]
  constructor
  · rintro ⟨j, ⟨hj, _⟩, rfl⟩
    rw [get_arr zs hj]
    exact List.getElem_mem hj
  · intro hy
    obtain ⟨j, hj, hjy⟩ := List.getElem_of_mem hy
    induction j with
    | zero => exact ⟨0, ⟨hj, by simp [Lib.keeps]⟩, by rw [get_arr zs hj, hjy]⟩
    | succ j ih =>
      by_cases he : zs[j]'(by omega) = y
      · exact ih (by omega) he
      · refine ⟨j + 1, ⟨hj, Lib.keeps_pos ?_⟩, by rw [get_arr zs hj, hjy]⟩
        rw [Nat.add_sub_cancel, get_arr zs hj, get_arr zs (show j < zs.length by omega), hjy]
        exact fun h => he h.symm
theorem comp_rise {zs : List Int} (h : zs.Pairwise (· ≤ ·)) : (Lib.compact zs).Pairwise (· < ·) := by
  unfold Lib.compact Lib.compactUpTo
  rw [List.pairwise_map, List.pairwise_filter]
  have hr : (List.range zs.length).Pairwise (· < ·) := List.pairwise_lt_range
  refine (List.pairwise_iff_getElem.2 fun i j hi hj hij => ?_)
  simp only [List.length_range] at hi hj
  simp only [List.getElem_range]
  intro h1 h2
  rw [get_arr zs hi, get_arr zs hj]
  have a1 := List.pairwise_iff_getElem.1 h
  unfold Lib.keeps at h2
  have h2 : j = 0 ∨ zs.toArray[j]! ≠ zs.toArray[j - 1]! := of_decide_eq_true h2
  rw [get_arr zs hj, get_arr zs (show j - 1 < zs.length by omega)] at h2
  have a2 := a1 (j - 1) j (by omega) hj (by omega)
  have h2 : zs[j] ≠ zs[j - 1] := by rcases h2 with h | h; omega; exact h
  by_cases he : i = j - 1
  · subst he; omega
  · have := a1 i (j - 1) hi (by omega) (by omega)
    omega
theorem thin_mem {zs : List Int} (y : Int) : y ∈ thinL zs ↔ y ∈ zs := by
  unfold thinL
  rw [comp_mem, List.mem_mergeSort]
theorem thin_rise (zs : List Int) : (thinL zs).Pairwise (· < ·) := by
  refine comp_rise ?_
  have := List.pairwise_mergeSort (le := fun (x y : Int) => decide (x ≤ y)) (fun a b c h1 h2 => by simp at *; omega) (fun a b => by simp; omega) zs
  exact this.imp fun {a b} h => by simpa using h
theorem rise_len : ∀ {zs : List Int} {a b : Int}, zs.Pairwise (· < ·) → (∀ y ∈ zs, a ≤ y ∧ y < b) → (zs.length : Int) ≤ max 0 (b - a)
  | [], _, _, _, _ => by simp; omega
  | z :: zs, a, b, h, h2 => by
    have h3 := List.pairwise_cons.1 h
    have := rise_len (zs := zs) (a := z + 1) (b := b) h3.2 fun y hy => ⟨by have := h3.1 y hy; omega, (h2 y (List.mem_cons_of_mem _ hy)).2⟩
    have h4 := h2 z (by simp)
    simp only [List.length_cons]
    omega
def joinL (u : List Int) (i : Int) : List Int := thinL (u ++ [i])
theorem run_parent_Join (l : List Int) (i : Int) (hl : (l.length : Int) ≤ 64) : Run C0 42 [(intsP l), (i64P i)] (ownInts (joinL l i)) := by
  refine run_fn (C := C0) (c := _) [(intsP l), (i64P i), undefP, undefP, undefP, undefP, undefP, undefP, undefP, undefP, undefP] Tryz.func42 rfl rfl rfl rfl ?_
  have ho := own_nil []
  refine w_seq ?_
  refine w_reg ?_
  refine w_as nilS rfl ?_
  try dsimp only [setD, List.set]
  refine w_nil ?_
  refine un_n ?_
  refine w_seq ?_
  refine w_reg ?_
  refine w_mv (intsP l) rfl ?_
  refine w_cown ho _ _ _ _ _ [] rfl rfl (cl_cons (cl_ints ..) (cl_nil _)) (run_clone_ints l (by first | omega | (simp; omega) | (simp; done) | (simp [*]; omega))) sz_3 (by decide) (flat_len intF_len _) sl_nil (fun _ r2 ho1 => ?_)
  refine w_mv (i64P i) rfl ?_
  refine w_bs ho1 [(i64P i)] el_33 sz_3 zp_3 (by decide) (by decide) rfl (fill_cons rfl rfl rfl rfl (isC_cons rfl (isC_nil)) rfl fill_nil) rfl (fun _ r5 ho6 => ?_)
  try dsimp only [setD, List.set]
  refine w_app ho6 1 (l0 := l) (l' := ([i])) intF_len [((.row r5 0 1), .cells 3 [(i64P i)] (some 1) false)] rfl rfl rfl el_33 el_33 sz_3 by_3 zp_3 (by decide) rfl (sl_ex (sl_own ho6 0 rfl (by decide) rfl)) (by first | omega | (simp; omega) | (simp [sortL]; omega)) (by first | omega | (simp; omega) | (simp [sortL]; omega)) kn_33 rfl (fun _ p8 ho9 => ?_)
  refine w_cown ho9 _ _ _ _ _ [(p8, .cells 3 ((l ++ [i]).flatMap intF) (some 1) false), ((.row r5 0 1), .cells 3 [(i64P i)] (some 1) false)] rfl rfl (cl_cons (cl_own ho9 0 rfl (by decide) (flat_len' intF_len (by first | assumption | (simp; done) | (simp [*]; done) | (simp; omega))) (cl_flat' _ (fun _ => cl_intF _ _) _)) (cl_nil _)) (run_thin (l ++ [i]) (by first | omega | (simp; omega))) sz_3 (by decide) (flat_len intF_len _) (sl_cons (so_cells (has_own (hasE_intF _ _))) (sl_cons (so_cells (has_own (hasE_intF _ _))) sl_nil)) (fun _ r11 ho10 => ?_)
  refine w_as (.row r11 0 (thinL (l ++ [i])).length) rfl ?_
  try dsimp only [setD, List.set]
  refine w_nil ?_
  refine un_n ?_
  refine w_ret ?_
  refine ⟨.inr rfl, [(.row r11 0 (thinL (l ++ [i])).length)], [(.own 3 (thinL (l ++ [i])).length ((thinL (l ++ [i])).flatMap intF))], rfl, (ca_cons (cr_own ho10 0 rfl (by decide) (flat_len' intF_len (by first | assumption | (simp; done) | (simp [*]; done) | (simp; omega))) el_33 sz_3 (offs_nil _) (hasE_intF _ _) (cl_flat' _ (fun _ => cl_intF _ _) _)) ca_nil), ?_⟩
  first | (exfalso; omega) | (first | rfl | exact own_eq rfl rfl)
theorem run_under (x : Int) (b : Int) (w : Int) (hw : whole w = true) (h0 : 0 ≤ x) (h1 : x < w) : Run C0 15 [(i64P x), (i64P b), (i64P w)] (boolP (decide (b ∈ upI x w))) := by
  have hisn : isN x w = true := by unfold isN; simp [hw]; omega
  refine run_fn (C := C0) (c := _) [(i64P x), (i64P b), (i64P w), undefP, undefP, undefP, undefP, undefP, undefP, undefP, undefP, undefP, undefP, undefP, undefP] Tryz.func15 rfl rfl rfl rfl ?_
  have ho := own_nil []
  refine w_seq ?_
  refine w_reg ?_
  refine w_box ho [(i64P b)] rfl (isC_cons rfl (isC_nil)) (fun _ r1 ho2 => ?_)
  refine w_alloc ho2 [(boolP false)] zp_4 (fun _ r4 ho5 => ?_)
  try dsimp only [setD, List.set]
  refine w_nil ?_
  refine un_n ?_
  refine w_seq ?_
  refine w_seq ?_
  refine w_reg ?_
  refine w_mv (i64P x) rfl ?_
  refine w_mv (i64P w) rfl ?_
  try dsimp only [setD, List.set]
  refine w_inl [(i64P x), (i64P w), undefP, undefP, undefP, undefP] rfl rfl rfl Tryz.func46 rfl rfl rfl ?_
  refine w_seq ?_
  refine w_reg ?_
  refine w_box ho5 [(i64P x)] rfl (isC_cons rfl (isC_nil)) (fun _ r7 ho8 => ?_)
  refine w_box ho8 [(i64P w)] rfl (isC_cons rfl (isC_nil)) (fun _ r10 ho11 => ?_)
  refine w_as (.s .nilFunc) rfl ?_
  try dsimp only [setD, List.set]
  refine w_nil ?_
  refine un_n ?_
  refine w_seq ?_
  refine w_reg ?_
  refine w_mf (.fn 84 [] [(.ptr r7 0), (.ptr r10 0)]) rfl ?_
  refine w_as (.fn 84 [] [(.ptr r7 0), (.ptr r10 0)]) rfl ?_
  try dsimp only [setD, List.set]
  refine w_nil ?_
  refine un_n ?_
  refine w_ret ?_
  refine ⟨.inr rfl, [(.fn 84 [] [(.ptr r7 0), (.ptr r10 0)])], rfl, ?_⟩
  try dsimp only [setD, List.set]
  refine w_nil ?_
  refine un_n ?_
  refine w_block ?_
  refine w_range ho11 (fun y => [y, (.ptr r7 0), (.ptr r10 0), undefP, undefP, undefP, undefP, undefP, undefP, undefP, undefP, undefP, undefP, undefP, undefP, undefP, undefP, undefP]) rfl rfl Tryz.func84 rfl rfl (fun _ => rfl) (fun _ r13 as15 bo16 eas15 ebo16 ho14 => ?_)
  refine w_seq ?_
  refine w_seq ?_
  refine w_reg ?_
  refine w_ld (i64P x) (ld_var ho14 2 rfl (ld_one sz_3 ag_3 rfl)) ?_
  refine w_ld (i64P w) (ld_var ho14 1 rfl (ld_one sz_3 ag_3 rfl)) ?_
  refine w_cs _ (boolP (isN x w)) rfl (cl_cons (cl_i64 ..) (cl_cons (cl_i64 ..) (cl_nil _))) (run_index_Is x w) rfl (fun H => calm_s H _) ?_
  refine w_un (boolP (!(isN x w))) rfl ?_
  try dsimp only [setD, List.set]
  refine w_nil ?_
  refine un_n ?_
  refine w_if0 rfl (by rw [hisn]; rfl) ?_
  refine w_skip ?_
  refine un_n ?_
  refine w_block ?_
  refine w_loop (fun n g H => ∃ (j8 : PV) (j9 : PV) (j10 : PV) (j11 : PV) (j12 : PV) (j13 : PV) (j14 : PV) (j15 : PV) (j16 : PV) (j17 : PV) (y : Int), g = [(.yld r13), (.ptr r7 0), (.ptr r10 0), undefP, (i64P x), (i64P w), (boolP (isN x w)), (boolP (!(isN x w))), j8, j9, j10, j11, j12, j13, j14, j15, j16, j17] ∧ Own H [((.yld r13), .loop .ready none [(i64P x), (i64P b), (i64P w), undefP, (.ptr r1 0), undefP, (.ptr r4 0), undefP, (i64P x), (i64P w), (.fn 84 [] [(.ptr r7 0), (.ptr r10 0)]), undefP, undefP, undefP, undefP] [11] as15 bo16), ((.ptr r10 0), .cells 3 [(i64P w)] none false), ((.ptr r7 0), .cells 3 [(i64P y)] none false), ((.ptr r4 0), .cells 4 [(boolP false)] none false), ((.ptr r1 0), .cells 3 [(i64P b)] none false)] ∧ n = (upI y w).length ∧ (y = -1 ∨ 0 ≤ y ∧ y < w) ∧ (b ∈ upI y w ↔ b ∈ upI x w)) ⟨_, _, _, _, _, _, _, _, _, _, x, rfl, ho14, rfl, (by omega), Iff.rfl⟩ ?_
  rintro m19 _ H ⟨j8, j9, j10, j11, j12, j13, j14, j15, j16, j17, y, rfl, ho18, em19, hy, hc⟩
  refine w_seq ?_
  refine w_seq ?_
  refine w_reg ?_
  refine w_ld (i64P y) (ld_var ho18 2 rfl (ld_one sz_3 ag_3 rfl)) ?_
  refine w_bin (boolP (decide (y ≥ 0))) rfl ?_
  refine w_mv (boolP (decide (y ≥ 0))) rfl ?_
  rcases Bool.eq_false_or_eq_true (decide (y ≥ 0)) with h20 | h20
  · have h20_ := of_decide_eq_true h20
    have hu := up_all (x := y) (w := w) hw (by omega) (by omega)
    refine w_gd (dd := 10) rfl rfl h20 ?_
    refine w_mv (.yld r13) rfl ?_
    try dsimp only [setD, List.set]
    refine w_gd (dd := 10) rfl rfl h20 ?_
    refine w_ld (i64P y) (ld_var ho18 2 rfl (ld_one sz_3 ag_3 rfl)) ?_
    refine w_gd (dd := 10) rfl rfl h20 ?_
    try dsimp only [setD, List.set]
    refine w_yield ho18 0 [(i64P x), (i64P b), (i64P w), undefP, (.ptr r1 0), undefP, (.ptr r4 0), undefP, (i64P x), (i64P w), (.fn 84 [] [(.ptr r7 0), (.ptr r10 0)]), (i64P y), undefP, undefP, undefP] (fun k h => by cases h) rfl rfl rfl rfl ?_
    refine w_code eas15 ?_
    refine w_reg ?_
    refine w_as (i64P y) rfl ?_
    try dsimp only [setD, List.set]
    refine w_nil ?_
    refine ⟨rfl, 0, _, _, _, _, _, _, ho18, rfl, fun _ ho21 => ?_⟩
    try dsimp only [List.set] at ho21
    refine w_code ebo16 ?_
    refine w_block ?_
    refine w_seq ?_
    refine w_reg ?_
    refine w_mv (i64P y) rfl ?_
    refine w_ld (i64P b) (ld_var ho21 4 rfl (ld_one sz_3 ag_3 rfl)) ?_
    refine w_bin (boolP (decide (y = b))) rfl ?_
    try dsimp only [setD, List.set]
    refine w_nil ?_
    refine un_n ?_
    refine w_if (decide (y = b)) rfl (fun h22 => ?_) (fun h22 => ?_)
    · have h22_ := of_decide_eq_true h22
      refine w_seq ?_
      refine w_reg ?_
      refine w_stv ho21 3 (boolP true) [(boolP true)] [((.yld r13), .loop .busy none [(i64P x), (i64P b), (i64P w), undefP, (.ptr r1 0), undefP, (.ptr r4 0), undefP, (i64P x), (i64P w), (.fn 84 [] [(.ptr r7 0), (.ptr r10 0)]), undefP, undefP, undefP, undefP] [11] as15 bo16), ((.ptr r10 0), .cells 3 [(i64P w)] none false), ((.ptr r7 0), .cells 3 [(i64P y)] none false), ((.ptr r4 0), .cells 4 [(boolP true)] none false), ((.ptr r1 0), .cells 3 [(i64P b)] none false)] rfl rfl rfl sz_4 rfl rfl (by decide) (isC_cons rfl (isC_nil)) (show 1 ≤ 1 by decide) rfl rfl (fun _ ho23 => ?_)
      refine w_nil ?_
      refine un_n ?_
      refine w_ret ?_
      refine ⟨0, _, _, _, _, _, _, _, ho23, rfl, fun _ ho24 => ?_⟩
      replace ho24 : Own _ [((.yld r13), .loop .done (some .ret) [(i64P x), (i64P b), (i64P w), undefP, (.ptr r1 0), undefP, (.ptr r4 0), undefP, (i64P x), (i64P w), (.fn 84 [] [(.ptr r7 0), (.ptr r10 0)]), undefP, undefP, undefP, undefP] [11] as15 bo16), ((.ptr r10 0), .cells 3 [(i64P w)] none false), ((.ptr r7 0), .cells 3 [(i64P y)] none false), ((.ptr r4 0), .cells 4 [(boolP true)] none false), ((.ptr r1 0), .cells 3 [(i64P b)] none false)] := ho24
      refine w_pk1 (boolP false) rfl h20 rfl ?_
      try dsimp only [setD, List.set]
      refine w_nil ?_
      refine un_n ?_
      refine w_if0 rfl rfl ?_
      refine w_exit ?_
      refine un_e ?_
      refine un_e ?_
      refine ⟨.inl rfl, ⟨[], rfl⟩, 0, _, _, _, _, _, _, _, _, ho24, rfl, (by decide), rfl, fun _ ho25 => ?_⟩
      try dsimp only [List.eraseIdx] at ho25
      refine un_r ?_
      refine ⟨.inr rfl, [(boolP true)], [(boolP true)], (mr_cons (rv_cell rfl (ld_var ho25 2 rfl (ld_one sz_4 ag_4 rfl))) mr_nil), rfl, ?_⟩
      refine congrArg boolP (?_ : true = (decide (b ∈ upI x w)))
      first | (exfalso; omega) | (first | exact (decide_eq_false hcw).symm | exact (decide_eq_true (hc.1 (by rw [hu.1]; exact List.mem_cons.2 (.inl (by omega))))).symm)
    · have h22_ := of_decide_eq_false h22
      refine w_skip ?_
      refine ⟨0, _, _, _, _, _, _, _, ho21, rfl, fun _ ho26 => ?_⟩
      replace ho26 : Own _ [((.yld r13), .loop .ready none [(i64P x), (i64P b), (i64P w), undefP, (.ptr r1 0), undefP, (.ptr r4 0), undefP, (i64P x), (i64P w), (.fn 84 [] [(.ptr r7 0), (.ptr r10 0)]), undefP, undefP, undefP, undefP] [11] as15 bo16), ((.ptr r10 0), .cells 3 [(i64P w)] none false), ((.ptr r7 0), .cells 3 [(i64P y)] none false), ((.ptr r4 0), .cells 4 [(boolP false)] none false), ((.ptr r1 0), .cells 3 [(i64P b)] none false)] := ho26
      refine w_pk1 (boolP true) rfl h20 rfl ?_
      try dsimp only [setD, List.set]
      refine w_nil ?_
      refine un_n ?_
      refine w_if1 rfl rfl ?_
      refine w_skip ?_
      refine un_n ?_
      refine w_block ?_
      refine w_reg ?_
      refine w_ld (i64P y) (ld_var ho26 2 rfl (ld_one sz_3 ag_3 rfl)) ?_
      refine w_ld (i64P w) (ld_var ho26 1 rfl (ld_one sz_3 ag_3 rfl)) ?_
      refine w_cs _ (i64P (parI y.toNat w.toNat)) rfl (cl_cons (cl_i64 ..) (cl_cons (cl_i64 ..) (cl_nil _))) (run_parent y w (by first | assumption | exact sane_whole (by assumption) (by omega)) (by omega) (by omega)) rfl (fun H => calm_s H _) ?_
      refine w_stv ho26 2 (i64P (parI y.toNat w.toNat)) [(i64P (parI y.toNat w.toNat))] [((.yld r13), .loop .ready none [(i64P x), (i64P b), (i64P w), undefP, (.ptr r1 0), undefP, (.ptr r4 0), undefP, (i64P x), (i64P w), (.fn 84 [] [(.ptr r7 0), (.ptr r10 0)]), undefP, undefP, undefP, undefP] [11] as15 bo16), ((.ptr r10 0), .cells 3 [(i64P w)] none false), ((.ptr r7 0), .cells 3 [(i64P (parI y.toNat w.toNat))] none false), ((.ptr r4 0), .cells 4 [(boolP false)] none false), ((.ptr r1 0), .cells 3 [(i64P b)] none false)] rfl rfl rfl sz_3 rfl rfl (by decide) (isC_cons rfl (isC_nil)) (show 1 ≤ 1 by decide) rfl rfl (fun _ ho27 => ?_)
      try dsimp only [setD, List.set]
      refine w_nil ?_
      exact un_n ⟨_, (by rw [em19, hu.1]; simp), _, _, _, _, _, _, _, _, _, _, (parI y.toNat w.toNat), rfl, ho27, rfl, hu.2.1, (by rw [← hc, hu.1, List.mem_cons, or_iff_right (by omega)])⟩
  · have h20_ := of_decide_eq_false h20
    have hcw : ¬ b ∈ upI x w := by rw [show y = -1 from by omega, up_neg] at hc; rw [← hc]; exact List.not_mem_nil
    refine w_gn (dd := 10) rfl rfl h20 ?_
    try dsimp only [setD, List.set]
    refine w_gn (dd := 10) rfl rfl h20 ?_
    refine w_gn (dd := 10) rfl rfl h20 ?_
    refine w_pk0 (boolP false) rfl h20 rfl ?_
    try dsimp only [setD, List.set]
    refine w_nil ?_
    refine un_n ?_
    refine w_if0 rfl rfl ?_
    refine w_exit ?_
    refine un_e ?_
    refine un_e ?_
    refine ⟨.inl rfl, ⟨[], rfl⟩, 0, _, _, _, _, _, _, _, _, ho18, rfl, (by decide), rfl, fun _ ho28 => ?_⟩
    try dsimp only [List.eraseIdx] at ho28
    refine un_n ?_
    refine w_seq ?_
    refine w_reg ?_
    refine w_stv ho28 2 (boolP false) [(boolP false)] [((.ptr r10 0), .cells 3 [(i64P w)] none false), ((.ptr r7 0), .cells 3 [(i64P y)] none false), ((.ptr r4 0), .cells 4 [(boolP false)] none false), ((.ptr r1 0), .cells 3 [(i64P b)] none false)] rfl rfl rfl sz_4 rfl rfl (by decide) (isC_cons rfl (isC_nil)) (show 1 ≤ 1 by decide) rfl rfl (fun _ ho29 => ?_)
    refine w_nil ?_
    refine un_n ?_
    refine w_ret ?_
    refine ⟨.inr rfl, [(boolP false)], [(boolP false)], (mr_cons (rv_cell rfl (ld_var ho29 2 rfl (ld_one sz_4 ag_4 rfl))) mr_nil), rfl, ?_⟩
    refine congrArg boolP (?_ : false = (decide (b ∈ upI x w)))
    first | (exfalso; omega) | (first | exact (decide_eq_false hcw).symm | exact (decide_eq_true (hc.1 (by rw [hu.1]; exact List.mem_cons.2 (.inl (by omega))))).symm)
end Go.Proofs.YtkkdkhacligaoaaGreatDoor.law
