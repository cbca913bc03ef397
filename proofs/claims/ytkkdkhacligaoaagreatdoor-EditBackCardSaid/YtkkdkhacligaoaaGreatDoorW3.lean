/- Walks: what functions of the program come to, as the pure interpreter runs them. -/
import Derived.Test.YtkkdkhacligaoaaGreatDoorWC
set_option linter.unusedSimpArgs false
set_option linter.unusedVariables false
namespace Go.Proofs.YtkkdkhacligaoaaGreatDoor.law
open Go.PI
theorem run_parent_Check_1 (i : Int) : Run C0 119 [(i64P i)] (boolP (outside i)) := by
  refine run_fn (C := C0) (c := _) [(i64P i), undefP, undefP, undefP, undefP, undefP, undefP, undefP, undefP] Tryz.func119 rfl rfl rfl rfl ?_
  have ho := own_nil []
  refine w_seq ?_
  refine w_reg ?_
  refine w_as (boolP false) rfl ?_
  try dsimp only [setD, List.set]
  refine w_nil ?_
  refine un_n ?_
  refine w_seq ?_
  refine w_reg ?_
  refine w_mv (i64P i) rfl ?_
  refine w_bin (boolP (decide (i < 0))) rfl ?_
  refine w_mv (boolP (decide (i < 0))) rfl ?_
  rcases Bool.eq_false_or_eq_true (decide (i < 0)) with h1 | h1
  · have h1_ := of_decide_eq_true h1
    refine w_gn (dd := 5) rfl rfl h1 ?_
    try dsimp only [setD, List.set]
    refine w_gn (dd := 5) rfl rfl h1 ?_
    refine w_pk1 (boolP true) rfl h1 rfl ?_
    refine w_as (boolP true) rfl ?_
    try dsimp only [setD, List.set]
    refine w_nil ?_
    refine un_n ?_
    refine w_ret ?_
    refine ⟨.inr rfl, [(boolP true)], [(boolP true)], rfl, rfl, ?_⟩
    refine congrArg boolP (?_ : true = (outside i))
    first | (exfalso; omega) | (first | (simp_all [outside]; done) | (simp_all [outside]; omega))
  · have h1_ := of_decide_eq_false h1
    refine w_gd (dd := 5) rfl rfl h1 ?_
    refine w_mv (i64P i) rfl ?_
    try dsimp only [setD, List.set]
    refine w_gd (dd := 5) rfl rfl h1 ?_
    refine w_bin (boolP (decide (i > 63))) rfl ?_
    refine w_pk0 (boolP (decide (i > 63))) rfl h1 rfl ?_
    refine w_as (boolP (decide (i > 63))) rfl ?_
    try dsimp only [setD, List.set]
    refine w_nil ?_
    refine un_n ?_
    refine w_ret ?_
    refine ⟨.inr rfl, [(boolP (decide (i > 63)))], [(boolP (decide (i > 63)))], rfl, rfl, ?_⟩
    refine congrArg boolP (?_ : (decide (i > 63)) = (outside i))
    first | (exfalso; omega) | (first | (simp_all [outside]; done) | (simp_all [outside]; omega))
theorem thin_len (l : List Int) : (thinL l).length ≤ l.length := by
  unfold thinL
  exact Nat.le_trans (comp_len _) (by rw [List.length_mergeSort]; exact Nat.le_refl _)
theorem run_parent_Check0 (n : Inner) (hn : (n.unmerged.length : Int) ≤ 9223372036854775807) : Run C0 79 [(.agg (innerCs n))] (i64P (parentCheck n)) := by
  have htl := thin_len n.unmerged
  refine run_fn (C := C0) (c := _) [(.agg (innerCs n)), undefP, undefP, undefP, undefP, undefP, undefP, undefP, undefP, undefP, undefP, undefP, undefP, undefP, undefP, undefP, undefP, undefP, undefP, undefP, undefP, undefP, undefP, undefP, undefP, undefP, undefP, undefP, undefP, undefP, undefP, undefP, undefP, undefP, undefP, undefP, undefP, undefP, undefP] Tryz.func79 rfl rfl rfl rfl ?_
  have ho := own_nil []
  refine w_seq ?_
  refine w_reg ?_
  refine w_box ho (innerCs n) rfl (isC_inner _) (fun _ r1 ho2 => ?_)
  refine w_as (i64P 0) rfl ?_
  try dsimp only [setD, List.set]
  refine w_nil ?_
  refine un_n ?_
  refine w_seq ?_
  refine w_reg ?_
  refine w_as (.fn 119 [] []) rfl ?_
  try dsimp only [setD, List.set]
  refine w_nil ?_
  refine un_n ?_
  refine w_seq ?_
  refine w_block ?_
  refine w_seq ?_
  refine w_reg ?_
  refine w_fa (.ptr r1 0) (fa_ptr fd_35_0 sz_23 (by decide)) ?_
  refine w_ld (octP n.enc) (ld_var ho2 0 rfl (ld_one sz_23 ag_23 rfl)) ?_
  refine w_lenC _ _ _ (n.enc.length : Int) (by rw [el_23]; rfl) rfl rfl ?_
  refine w_bin (boolP (decide ((n.enc.length : Int) = 0))) rfl ?_
  try dsimp only [setD, List.set]
  refine w_as (boolP (decide ((n.enc.length : Int) = 0))) rfl ?_
  try dsimp only [setD, List.set]
  refine w_nil ?_
  refine un_n ?_
  refine w_if (decide ((n.enc.length : Int) = 0)) rfl (fun h4 => ?_) (fun h4 => ?_)
  · have h4_ := of_decide_eq_true h4
    refine w_seq ?_
    refine w_reg ?_
    refine w_as (i64P 5) rfl ?_
    try dsimp only [setD, List.set]
    refine w_nil ?_
    refine un_n ?_
    refine w_ret ?_
    refine un_r ?_
    refine ⟨.inr rfl, [(i64P 5)], [(i64P 5)], rfl, rfl, ?_⟩
    refine congrArg i64P (?_ : 5 = (parentCheck n))
    first | (exfalso; omega) | (unfold parentCheck; (repeat' split) <;> first | rfl | omega | (simp_all; done) | (simp_all; omega))
  · have h4_ := of_decide_eq_false h4
    refine w_seq ?_
    refine w_reg ?_
    refine w_fa (.ptr r1 0) (fa_ptr fd_35_0 sz_23 (by decide)) ?_
    refine w_ld (octP n.enc) (ld_var ho2 0 rfl (ld_one sz_23 ag_23 rfl)) ?_
    refine w_lenC _ _ _ (n.enc.length : Int) (by rw [el_23]; rfl) rfl rfl ?_
    refine w_bin (boolP (decide ((n.enc.length : Int) > 200))) rfl ?_
    try dsimp only [setD, List.set]
    refine w_mv (boolP (decide ((n.enc.length : Int) > 200))) rfl ?_
    rcases Bool.eq_false_or_eq_true (decide ((n.enc.length : Int) > 200)) with h5 | h5
    · have h5_ := of_decide_eq_true h5
      refine w_gn (dd := 14) rfl rfl h5 ?_
      refine w_gn (dd := 14) rfl rfl h5 ?_
      refine w_gn (dd := 14) rfl rfl h5 ?_
      try dsimp only [setD, List.set]
      refine w_gn (dd := 14) rfl rfl h5 ?_
      refine w_pk1 (boolP true) rfl h5 rfl ?_
      refine w_mv (boolP true) rfl ?_
      refine w_gn (dd := 20) rfl rfl rfl ?_
      try dsimp only [setD, List.set]
      refine w_gn (dd := 20) rfl rfl rfl ?_
      refine w_gn (dd := 20) rfl rfl rfl ?_
      refine w_gn (dd := 20) rfl rfl rfl ?_
      refine w_pk1 (boolP true) rfl rfl rfl ?_
      try dsimp only [setD, List.set]
      refine w_as (boolP true) rfl ?_
      try dsimp only [setD, List.set]
      refine w_nil ?_
      refine un_n ?_
      refine w_if1 rfl rfl ?_
      refine w_seq ?_
      refine w_reg ?_
      refine w_as (i64P 4) rfl ?_
      try dsimp only [setD, List.set]
      refine w_nil ?_
      refine un_n ?_
      refine w_ret ?_
      refine un_r ?_
      refine ⟨.inr rfl, [(i64P 4)], [(i64P 4)], rfl, rfl, ?_⟩
      refine congrArg i64P (?_ : 4 = (parentCheck n))
      first | (exfalso; omega) | (unfold parentCheck; (repeat' split) <;> first | rfl | omega | (simp_all; done) | (simp_all; omega))
    · have h5_ := of_decide_eq_false h5
      refine w_gd (dd := 14) rfl rfl h5 ?_
      refine w_fa (.ptr r1 1) (fa_ptr fd_35_1 sz_23 (by decide)) ?_
      refine w_gd (dd := 14) rfl rfl h5 ?_
      refine w_ld (octP n.hash) (ld_var ho2 0 rfl (ld_one sz_23 ag_23 rfl)) ?_
      refine w_gd (dd := 14) rfl rfl h5 ?_
      refine w_lenC _ _ _ (n.hash.length : Int) (by rw [el_23]; rfl) rfl rfl ?_
      try dsimp only [setD, List.set]
      refine w_gd (dd := 14) rfl rfl h5 ?_
      refine w_bin (boolP (decide ((n.hash.length : Int) > 200))) rfl ?_
      refine w_pk0 (boolP (decide ((n.hash.length : Int) > 200))) rfl h5 rfl ?_
      refine w_mv (boolP (decide ((n.hash.length : Int) > 200))) rfl ?_
      rcases Bool.eq_false_or_eq_true (decide ((n.hash.length : Int) > 200)) with h6 | h6
      · have h6_ := of_decide_eq_true h6
        refine w_gn (dd := 20) rfl rfl h6 ?_
        try dsimp only [setD, List.set]
        refine w_gn (dd := 20) rfl rfl h6 ?_
        refine w_gn (dd := 20) rfl rfl h6 ?_
        refine w_gn (dd := 20) rfl rfl h6 ?_
        refine w_pk1 (boolP true) rfl h6 rfl ?_
        try dsimp only [setD, List.set]
        refine w_as (boolP true) rfl ?_
        try dsimp only [setD, List.set]
        refine w_nil ?_
        refine un_n ?_
        refine w_if1 rfl rfl ?_
        refine w_seq ?_
        refine w_reg ?_
        refine w_as (i64P 4) rfl ?_
        try dsimp only [setD, List.set]
        refine w_nil ?_
        refine un_n ?_
        refine w_ret ?_
        refine un_r ?_
        refine ⟨.inr rfl, [(i64P 4)], [(i64P 4)], rfl, rfl, ?_⟩
        refine congrArg i64P (?_ : 4 = (parentCheck n))
        first | (exfalso; omega) | (unfold parentCheck; (repeat' split) <;> first | rfl | omega | (simp_all; done) | (simp_all; omega))
      · have h6_ := of_decide_eq_false h6
        refine w_gd (dd := 20) rfl rfl h6 ?_
        refine w_fa (.ptr r1 2) (fa_ptr fd_35_2 sz_33 (by decide)) ?_
        try dsimp only [setD, List.set]
        refine w_gd (dd := 20) rfl rfl h6 ?_
        refine w_ld (intsP n.unmerged) (ld_var ho2 0 rfl (ld_one sz_33 ag_33 rfl)) ?_
        refine w_gd (dd := 20) rfl rfl h6 ?_
        refine w_lenC _ _ _ (n.unmerged.length : Int) (by rw [el_33]; rfl) rfl rfl ?_
        refine w_gd (dd := 20) rfl rfl h6 ?_
        refine w_bin (boolP (decide ((n.unmerged.length : Int) > 64))) rfl ?_
        refine w_pk0 (boolP (decide ((n.unmerged.length : Int) > 64))) rfl h6 rfl ?_
        try dsimp only [setD, List.set]
        refine w_as (boolP (decide ((n.unmerged.length : Int) > 64))) rfl ?_
        try dsimp only [setD, List.set]
        refine w_nil ?_
        refine un_n ?_
        refine w_if (decide ((n.unmerged.length : Int) > 64)) rfl (fun h7 => ?_) (fun h7 => ?_)
        · have h7_ := of_decide_eq_true h7
          refine w_seq ?_
          refine w_reg ?_
          refine w_as (i64P 4) rfl ?_
          try dsimp only [setD, List.set]
          refine w_nil ?_
          refine un_n ?_
          refine w_ret ?_
          refine un_r ?_
          refine ⟨.inr rfl, [(i64P 4)], [(i64P 4)], rfl, rfl, ?_⟩
          refine congrArg i64P (?_ : 4 = (parentCheck n))
          first | (exfalso; omega) | (unfold parentCheck; (repeat' split) <;> first | rfl | omega | (simp_all; done) | (simp_all; omega))
        · have h7_ := of_decide_eq_false h7
          refine w_seq ?_
          refine w_reg ?_
          refine w_fa (.ptr r1 2) (fa_ptr fd_35_2 sz_33 (by decide)) ?_
          refine w_ld (intsP n.unmerged) (ld_var ho2 0 rfl (ld_one sz_33 ag_33 rfl)) ?_
          refine w_mv (.fn 119 [] []) rfl ?_
          refine w_cs _ (boolP (n.unmerged.any outside)) rfl (cl_cons (cl_ints ..) (cl_cons (cl_fn (cl_nil _) (cl_nil _)) (cl_nil _))) (run_containsF_ints n.unmerged 119 [] [] outside (by first | omega | (simp; done) | (simp; omega)) rfl (fun a _ => run_parent_Check_1 a) (fun _ _ => by first | rfl | exact cl_cons (cl_oct ..) (cl_nil _)) (fun _ => rfl)) rfl (fun H => calm_s H _) ?_
          try dsimp only [setD, List.set]
          refine w_as (boolP (n.unmerged.any outside)) rfl ?_
          try dsimp only [setD, List.set]
          refine w_nil ?_
          refine un_n ?_
          refine w_if (n.unmerged.any outside) rfl (fun h8 => ?_) (fun h8 => ?_)
          · refine w_seq ?_
            refine w_reg ?_
            refine w_as (i64P 3) rfl ?_
            try dsimp only [setD, List.set]
            refine w_nil ?_
            refine un_n ?_
            refine w_ret ?_
            refine un_r ?_
            refine ⟨.inr rfl, [(i64P 3)], [(i64P 3)], rfl, rfl, ?_⟩
            refine congrArg i64P (?_ : 3 = (parentCheck n))
            first | (exfalso; omega) | (unfold parentCheck; (repeat' split) <;> first | rfl | omega | (simp_all; done) | (simp_all; omega))
          · refine w_seq ?_
            refine w_reg ?_
            refine w_fa (.ptr r1 2) (fa_ptr fd_35_2 sz_33 (by decide)) ?_
            refine w_ld (intsP n.unmerged) (ld_var ho2 0 rfl (ld_one sz_33 ag_33 rfl)) ?_
            refine w_cownd ho2 _ _ _ _ _ rfl (cl_cons (cl_ints ..) (cl_nil _)) (run_thin n.unmerged (by omega)) sz_3 (by decide) (flat_len intF_len _) (calm_ownInts _ _) (fun _ r10 ho9 => ?_)
            refine w_fa (.ptr r1 2) (fa_ptr fd_35_2 sz_33 (by decide)) ?_
            try dsimp only [setD, List.set]
            refine w_ld (intsP n.unmerged) (ld_var ho9 1 rfl (ld_one sz_33 ag_33 rfl)) ?_
            refine w_cs _ (boolP (decide ((thinL n.unmerged) = n.unmerged))) rfl (cl_cons (cl_own ho9 0 rfl (by decide) (flat_len' intF_len (by first | assumption | (simp; done) | (simp [*]; done) | (simp; omega))) (cl_flat' _ (fun _ => cl_intF _ _) _)) (cl_cons (cl_ints ..) (cl_nil _))) (run_slices_Equal_int_int_ (thinL n.unmerged) n.unmerged (by omega)) rfl (fun H => calm_s H _) ?_
            refine w_un (boolP (!(decide ((thinL n.unmerged) = n.unmerged)))) rfl ?_
            refine w_as (boolP (!(decide ((thinL n.unmerged) = n.unmerged)))) rfl ?_
            try dsimp only [setD, List.set]
            refine w_nil ?_
            refine un_n ?_
            refine w_if (!(decide ((thinL n.unmerged) = n.unmerged))) rfl (fun h12 => ?_) (fun h12 => ?_)
            · have h12' := nb1 h12
              have h12'_ := of_decide_eq_false h12'
              refine w_seq ?_
              refine w_reg ?_
              refine w_as (i64P 8) rfl ?_
              try dsimp only [setD, List.set]
              refine w_nil ?_
              refine un_n ?_
              refine w_ret ?_
              refine un_r ?_
              refine ⟨.inr rfl, [(i64P 8)], [(i64P 8)], rfl, rfl, ?_⟩
              refine congrArg i64P (?_ : 8 = (parentCheck n))
              first | (exfalso; omega) | (unfold parentCheck; (repeat' split) <;> first | rfl | omega | (simp_all; done) | (simp_all; omega))
            · have h12' := nb0 h12
              have h12'_ := of_decide_eq_true h12'
              refine w_skip ?_
              refine un_n ?_
              refine w_seq ?_
              refine w_reg ?_
              refine w_as (i64P 0) rfl ?_
              try dsimp only [setD, List.set]
              refine w_nil ?_
              refine un_n ?_
              refine w_ret ?_
              refine ⟨.inr rfl, [(i64P 0)], [(i64P 0)], rfl, rfl, ?_⟩
              refine congrArg i64P (?_ : 0 = (parentCheck n))
              first | (exfalso; omega) | (unfold parentCheck; (repeat' split) <;> first | rfl | omega | (simp_all; done) | (simp_all; omega))
theorem run_parent_Same (a : Inner) (b : Inner) (ha : (a.unmerged.length : Int) ≤ 9223372036854775807) : Run C0 77 [(.agg (innerCs a)), (.agg (innerCs b))] (boolP (decide (a = b))) := by
  refine run_fn (C := C0) (c := _) [(.agg (innerCs a)), (.agg (innerCs b)), undefP, undefP, undefP, undefP, undefP, undefP, undefP, undefP, undefP, undefP, undefP, undefP, undefP, undefP, undefP, undefP, undefP, undefP, undefP, undefP, undefP, undefP] Tryz.func77 rfl rfl rfl rfl ?_
  have ho := own_nil []
  refine w_seq ?_
  refine w_reg ?_
  refine w_box ho (innerCs a) rfl (isC_inner _) (fun _ r1 ho2 => ?_)
  refine w_box ho2 (innerCs b) rfl (isC_inner _) (fun _ r4 ho5 => ?_)
  refine w_as (boolP false) rfl ?_
  try dsimp only [setD, List.set]
  refine w_nil ?_
  refine un_n ?_
  refine w_seq ?_
  refine w_reg ?_
  refine w_fa (.ptr r1 0) (fa_ptr fd_35_0 sz_23 (by decide)) ?_
  refine w_ld (octP a.enc) (ld_var ho5 1 rfl (ld_one sz_23 ag_23 rfl)) ?_
  refine w_fa (.ptr r4 0) (fa_ptr fd_35_0 sz_23 (by decide)) ?_
  refine w_ld (octP b.enc) (ld_var ho5 0 rfl (ld_one sz_23 ag_23 rfl)) ?_
  try dsimp only [setD, List.set]
  refine w_cs _ (boolP (decide (a.enc = b.enc))) rfl (cl_cons (cl_oct ..) (cl_cons (cl_oct ..) (cl_nil _))) (run_bytes_Equal a.enc b.enc) rfl (fun H => calm_s H _) ?_
  refine w_mv (boolP (decide (a.enc = b.enc))) rfl ?_
  rcases Bool.eq_false_or_eq_true (decide (a.enc = b.enc)) with h7 | h7
  · have h7_ := of_decide_eq_true h7
    refine w_gd (dd := 10) rfl rfl h7 ?_
    refine w_fa (.ptr r1 1) (fa_ptr fd_35_1 sz_23 (by decide)) ?_
    refine w_gd (dd := 10) rfl rfl h7 ?_
    refine w_ld (octP a.hash) (ld_var ho5 1 rfl (ld_one sz_23 ag_23 rfl)) ?_
    try dsimp only [setD, List.set]
    refine w_gd (dd := 10) rfl rfl h7 ?_
    refine w_fa (.ptr r4 1) (fa_ptr fd_35_1 sz_23 (by decide)) ?_
    refine w_gd (dd := 10) rfl rfl h7 ?_
    refine w_ld (octP b.hash) (ld_var ho5 0 rfl (ld_one sz_23 ag_23 rfl)) ?_
    refine w_gd (dd := 10) rfl rfl h7 ?_
    refine w_cs _ (boolP (decide (a.hash = b.hash))) rfl (cl_cons (cl_oct ..) (cl_cons (cl_oct ..) (cl_nil _))) (run_bytes_Equal a.hash b.hash) rfl (fun H => calm_s H _) ?_
    refine w_pk1 (boolP (decide (a.hash = b.hash))) rfl h7 rfl ?_
    try dsimp only [setD, List.set]
    refine w_mv (boolP (decide (a.hash = b.hash))) rfl ?_
    rcases Bool.eq_false_or_eq_true (decide (a.hash = b.hash)) with h8 | h8
    · have h8_ := of_decide_eq_true h8
      refine w_gd (dd := 17) rfl rfl h8 ?_
      refine w_fa (.ptr r1 2) (fa_ptr fd_35_2 sz_33 (by decide)) ?_
      refine w_gd (dd := 17) rfl rfl h8 ?_
      refine w_ld (intsP a.unmerged) (ld_var ho5 1 rfl (ld_one sz_33 ag_33 rfl)) ?_
      refine w_gd (dd := 17) rfl rfl h8 ?_
      refine w_fa (.ptr r4 2) (fa_ptr fd_35_2 sz_33 (by decide)) ?_
      try dsimp only [setD, List.set]
      refine w_gd (dd := 17) rfl rfl h8 ?_
      refine w_ld (intsP b.unmerged) (ld_var ho5 0 rfl (ld_one sz_33 ag_33 rfl)) ?_
      refine w_gd (dd := 17) rfl rfl h8 ?_
      refine w_cs _ (boolP (decide (a.unmerged = b.unmerged))) rfl (cl_cons (cl_ints ..) (cl_cons (cl_ints ..) (cl_nil _))) (run_slices_Equal_int_int_ a.unmerged b.unmerged (by omega)) rfl (fun H => calm_s H _) ?_
      refine w_pk1 (boolP (decide (a.unmerged = b.unmerged))) rfl h8 rfl ?_
      refine w_as (boolP (decide (a.unmerged = b.unmerged))) rfl ?_
      try dsimp only [setD, List.set]
      refine w_nil ?_
      refine un_n ?_
      refine w_ret ?_
      refine ⟨.inr rfl, [(boolP (decide (a.unmerged = b.unmerged)))], [(boolP (decide (a.unmerged = b.unmerged)))], rfl, rfl, ?_⟩
      refine congrArg boolP (?_ : (decide (a.unmerged = b.unmerged)) = (decide (a = b)))
      first | (exfalso; omega) | (first | rfl | (cases a; cases b; simp_all; done))
    · have h8_ := of_decide_eq_false h8
      refine w_gn (dd := 17) rfl rfl h8 ?_
      refine w_gn (dd := 17) rfl rfl h8 ?_
      refine w_gn (dd := 17) rfl rfl h8 ?_
      try dsimp only [setD, List.set]
      refine w_gn (dd := 17) rfl rfl h8 ?_
      refine w_gn (dd := 17) rfl rfl h8 ?_
      refine w_pk0 (boolP false) rfl h8 rfl ?_
      refine w_as (boolP false) rfl ?_
      try dsimp only [setD, List.set]
      refine w_nil ?_
      refine un_n ?_
      refine w_ret ?_
      refine ⟨.inr rfl, [(boolP false)], [(boolP false)], rfl, rfl, ?_⟩
      refine congrArg boolP (?_ : false = (decide (a = b)))
      first | (exfalso; omega) | (first | rfl | (cases a; cases b; simp_all; done))
  · have h7_ := of_decide_eq_false h7
    refine w_gn (dd := 10) rfl rfl h7 ?_
    refine w_gn (dd := 10) rfl rfl h7 ?_
    try dsimp only [setD, List.set]
    refine w_gn (dd := 10) rfl rfl h7 ?_
    refine w_gn (dd := 10) rfl rfl h7 ?_
    refine w_gn (dd := 10) rfl rfl h7 ?_
    refine w_pk0 (boolP false) rfl h7 rfl ?_
    try dsimp only [setD, List.set]
    refine w_mv (boolP false) rfl ?_
    refine w_gn (dd := 17) rfl rfl rfl ?_
    refine w_gn (dd := 17) rfl rfl rfl ?_
    refine w_gn (dd := 17) rfl rfl rfl ?_
    try dsimp only [setD, List.set]
    refine w_gn (dd := 17) rfl rfl rfl ?_
    refine w_gn (dd := 17) rfl rfl rfl ?_
    refine w_pk0 (boolP false) rfl rfl rfl ?_
    refine w_as (boolP false) rfl ?_
    try dsimp only [setD, List.set]
    refine w_nil ?_
    refine un_n ?_
    refine w_ret ?_
    refine ⟨.inr rfl, [(boolP false)], [(boolP false)], rfl, rfl, ?_⟩
    refine congrArg boolP (?_ : false = (decide (a = b)))
    first | (exfalso; omega) | (first | rfl | (cases a; cases b; simp_all; done))
theorem run_cordwoodref08_Same (a : Inner) (b : Inner) (ha : (a.unmerged.length : Int) ≤ 9223372036854775807) : Run C0 87 [(.agg (innerCs a)), (.agg (innerCs b))] (boolP (decide (a = b))) := by
  refine run_fn (C := C0) (c := _) [(.agg (innerCs a)), (.agg (innerCs b)), undefP, undefP, undefP, undefP, undefP, undefP, undefP, undefP, undefP, undefP, undefP, undefP, undefP, undefP, undefP, undefP, undefP, undefP, undefP, undefP, undefP, undefP, undefP, undefP, undefP, undefP] Tryz.func87 rfl rfl rfl rfl ?_
  have ho := own_nil []
  refine w_seq ?_
  refine w_reg ?_
  refine w_box ho (innerCs a) rfl (isC_inner _) (fun _ r1 ho2 => ?_)
  refine w_box ho2 (innerCs b) rfl (isC_inner _) (fun _ r4 ho5 => ?_)
  refine w_as (boolP false) rfl ?_
  try dsimp only [setD, List.set]
  refine w_nil ?_
  refine un_n ?_
  refine w_seq ?_
  refine w_reg ?_
  refine w_fa (.ptr r1 0) (fa_ptr fd_35_0 sz_23 (by decide)) ?_
  refine w_ld (octP a.enc) (ld_var ho5 1 rfl (ld_one sz_23 ag_23 rfl)) ?_
  refine w_cv (.s (.string ⟨a.enc.toArray⟩)) (cv_lst kd_9 st_9 el_23 kd_5 _) ?_
  refine w_fa (.ptr r4 0) (fa_ptr fd_35_0 sz_23 (by decide)) ?_
  try dsimp only [setD, List.set]
  refine w_ld (octP b.enc) (ld_var ho5 0 rfl (ld_one sz_23 ag_23 rfl)) ?_
  refine w_cv (.s (.string ⟨b.enc.toArray⟩)) (cv_lst kd_9 st_9 el_23 kd_5 _) ?_
  refine w_bin (boolP (decide (a.enc = b.enc))) (b_streq rfl rfl) ?_
  refine w_mv (boolP (decide (a.enc = b.enc))) rfl ?_
  try dsimp only [setD, List.set]
  rcases Bool.eq_false_or_eq_true (decide (a.enc = b.enc)) with h7 | h7
  · have h7_ := of_decide_eq_true h7
    refine w_gd (dd := 12) rfl rfl h7 ?_
    refine w_fa (.ptr r1 1) (fa_ptr fd_35_1 sz_23 (by decide)) ?_
    refine w_gd (dd := 12) rfl rfl h7 ?_
    refine w_ld (octP a.hash) (ld_var ho5 1 rfl (ld_one sz_23 ag_23 rfl)) ?_
    refine w_gd (dd := 12) rfl rfl h7 ?_
    refine w_cv (.s (.string ⟨a.hash.toArray⟩)) (cv_lst kd_9 st_9 el_23 kd_5 _) ?_
    refine w_gd (dd := 12) rfl rfl h7 ?_
    refine w_fa (.ptr r4 1) (fa_ptr fd_35_1 sz_23 (by decide)) ?_
    try dsimp only [setD, List.set]
    refine w_gd (dd := 12) rfl rfl h7 ?_
    refine w_ld (octP b.hash) (ld_var ho5 0 rfl (ld_one sz_23 ag_23 rfl)) ?_
    refine w_gd (dd := 12) rfl rfl h7 ?_
    refine w_cv (.s (.string ⟨b.hash.toArray⟩)) (cv_lst kd_9 st_9 el_23 kd_5 _) ?_
    refine w_gd (dd := 12) rfl rfl h7 ?_
    refine w_bin (boolP (decide (a.hash = b.hash))) (b_streq rfl rfl) ?_
    refine w_pk1 (boolP (decide (a.hash = b.hash))) rfl h7 rfl ?_
    try dsimp only [setD, List.set]
    refine w_mv (boolP (decide (a.hash = b.hash))) rfl ?_
    rcases Bool.eq_false_or_eq_true (decide (a.hash = b.hash)) with h8 | h8
    · have h8_ := of_decide_eq_true h8
      refine w_gd (dd := 21) rfl rfl h8 ?_
      refine w_fa (.ptr r1 2) (fa_ptr fd_35_2 sz_33 (by decide)) ?_
      refine w_gd (dd := 21) rfl rfl h8 ?_
      refine w_ld (intsP a.unmerged) (ld_var ho5 1 rfl (ld_one sz_33 ag_33 rfl)) ?_
      refine w_gd (dd := 21) rfl rfl h8 ?_
      refine w_fa (.ptr r4 2) (fa_ptr fd_35_2 sz_33 (by decide)) ?_
      try dsimp only [setD, List.set]
      refine w_gd (dd := 21) rfl rfl h8 ?_
      refine w_ld (intsP b.unmerged) (ld_var ho5 0 rfl (ld_one sz_33 ag_33 rfl)) ?_
      refine w_gd (dd := 21) rfl rfl h8 ?_
      refine w_cs _ (boolP (decide (a.unmerged = b.unmerged))) rfl (cl_cons (cl_ints ..) (cl_cons (cl_ints ..) (cl_nil _))) (run_cordwoodref02_Ints a.unmerged b.unmerged (by omega)) rfl (fun H => calm_s H _) ?_
      refine w_pk1 (boolP (decide (a.unmerged = b.unmerged))) rfl h8 rfl ?_
      refine w_as (boolP (decide (a.unmerged = b.unmerged))) rfl ?_
      try dsimp only [setD, List.set]
      refine w_nil ?_
      refine un_n ?_
      refine w_ret ?_
      refine ⟨.inr rfl, [(boolP (decide (a.unmerged = b.unmerged)))], [(boolP (decide (a.unmerged = b.unmerged)))], rfl, rfl, ?_⟩
      refine congrArg boolP (?_ : (decide (a.unmerged = b.unmerged)) = (decide (a = b)))
      first | (exfalso; omega) | (first | rfl | (cases a; cases b; simp_all; done))
    · have h8_ := of_decide_eq_false h8
      refine w_gn (dd := 21) rfl rfl h8 ?_
      refine w_gn (dd := 21) rfl rfl h8 ?_
      refine w_gn (dd := 21) rfl rfl h8 ?_
      try dsimp only [setD, List.set]
      refine w_gn (dd := 21) rfl rfl h8 ?_
      refine w_gn (dd := 21) rfl rfl h8 ?_
      refine w_pk0 (boolP false) rfl h8 rfl ?_
      refine w_as (boolP false) rfl ?_
      try dsimp only [setD, List.set]
      refine w_nil ?_
      refine un_n ?_
      refine w_ret ?_
      refine ⟨.inr rfl, [(boolP false)], [(boolP false)], rfl, rfl, ?_⟩
      refine congrArg boolP (?_ : false = (decide (a = b)))
      first | (exfalso; omega) | (first | rfl | (cases a; cases b; simp_all; done))
  · have h7_ := of_decide_eq_false h7
    refine w_gn (dd := 12) rfl rfl h7 ?_
    refine w_gn (dd := 12) rfl rfl h7 ?_
    refine w_gn (dd := 12) rfl rfl h7 ?_
    refine w_gn (dd := 12) rfl rfl h7 ?_
    try dsimp only [setD, List.set]
    refine w_gn (dd := 12) rfl rfl h7 ?_
    refine w_gn (dd := 12) rfl rfl h7 ?_
    refine w_gn (dd := 12) rfl rfl h7 ?_
    refine w_pk0 (boolP false) rfl h7 rfl ?_
    try dsimp only [setD, List.set]
    refine w_mv (boolP false) rfl ?_
    refine w_gn (dd := 21) rfl rfl rfl ?_
    refine w_gn (dd := 21) rfl rfl rfl ?_
    refine w_gn (dd := 21) rfl rfl rfl ?_
    try dsimp only [setD, List.set]
    refine w_gn (dd := 21) rfl rfl rfl ?_
    refine w_gn (dd := 21) rfl rfl rfl ?_
    refine w_pk0 (boolP false) rfl rfl rfl ?_
    refine w_as (boolP false) rfl ?_
    try dsimp only [setD, List.set]
    refine w_nil ?_
    refine un_n ?_
    refine w_ret ?_
    refine ⟨.inr rfl, [(boolP false)], [(boolP false)], rfl, rfl, ?_⟩
    refine congrArg boolP (?_ : false = (decide (a = b)))
    first | (exfalso; omega) | (first | rfl | (cases a; cases b; simp_all; done))
theorem run_cordwoodref09_Same (a : Node) (b : Node) (ha : WfN a) : Run C0 47 [(.agg (nodeCs a)), (.agg (nodeCs b))] (boolP (decide (a = b))) := by
  have ha : (a.inner.unmerged.length : Int) ≤ 9223372036854775807 := ha
  refine run_fn (C := C0) (c := _) [(.agg (nodeCs a)), (.agg (nodeCs b)), undefP, undefP, undefP, undefP, undefP, undefP, undefP, undefP, undefP, undefP, undefP, undefP, undefP, undefP, undefP, undefP, undefP, undefP, undefP, undefP, undefP, undefP] Tryz.func47 rfl rfl rfl rfl ?_
  have ho := own_nil []
  refine w_seq ?_
  refine w_reg ?_
  refine w_box ho (nodeCs a) rfl (isC_node _) (fun _ r1 ho2 => ?_)
  refine w_box ho2 (nodeCs b) rfl (isC_node _) (fun _ r4 ho5 => ?_)
  refine w_as (boolP false) rfl ?_
  try dsimp only [setD, List.set]
  refine w_nil ?_
  refine un_n ?_
  refine w_seq ?_
  refine w_reg ?_
  refine w_fa (.ptr r1 0) (fa_ptr fd_37_0 sz_3 (by decide)) ?_
  refine w_ld (i64P a.kind) (ld_var ho5 1 rfl (ld_one sz_3 ag_3 rfl)) ?_
  refine w_fa (.ptr r4 0) (fa_ptr fd_37_0 sz_3 (by decide)) ?_
  refine w_ld (i64P b.kind) (ld_var ho5 0 rfl (ld_one sz_3 ag_3 rfl)) ?_
  try dsimp only [setD, List.set]
  refine w_bin (boolP (decide (a.kind = b.kind))) rfl ?_
  refine w_mv (boolP (decide (a.kind = b.kind))) rfl ?_
  rcases Bool.eq_false_or_eq_true (decide (a.kind = b.kind)) with h7 | h7
  · have h7_ := of_decide_eq_true h7
    refine w_gd (dd := 10) rfl rfl h7 ?_
    refine w_fa (.ptr r1 1) (fa_ptr fd_37_1 sz_25 (by decide)) ?_
    refine w_gd (dd := 10) rfl rfl h7 ?_
    refine w_ld (.agg (leafCs a.leaf)) (ld_var ho5 1 rfl (ld_agg sz_25 ag_25 rfl (show 4 ≤ 7 by decide))) ?_
    try dsimp only [setD, List.set]
    refine w_gd (dd := 10) rfl rfl h7 ?_
    refine w_fa (.ptr r4 1) (fa_ptr fd_37_1 sz_25 (by decide)) ?_
    refine w_gd (dd := 10) rfl rfl h7 ?_
    refine w_ld (.agg (leafCs b.leaf)) (ld_var ho5 0 rfl (ld_agg sz_25 ag_25 rfl (show 4 ≤ 7 by decide))) ?_
    refine w_gd (dd := 10) rfl rfl h7 ?_
    refine w_cs _ (boolP (decide (a.leaf = b.leaf))) rfl (cl_cons (cl_agg (cl_leafCs ..)) (cl_cons (cl_agg (cl_leafCs ..)) (cl_nil _))) (run_cordwoodref07_Same a.leaf b.leaf) rfl (fun H => calm_s H _) ?_
    refine w_pk1 (boolP (decide (a.leaf = b.leaf))) rfl h7 rfl ?_
    try dsimp only [setD, List.set]
    refine w_mv (boolP (decide (a.leaf = b.leaf))) rfl ?_
    rcases Bool.eq_false_or_eq_true (decide (a.leaf = b.leaf)) with h8 | h8
    · have h8_ := of_decide_eq_true h8
      refine w_gd (dd := 17) rfl rfl h8 ?_
      refine w_fa (.ptr r1 5) (fa_ptr fd_37_2 sz_35 (by decide)) ?_
      refine w_gd (dd := 17) rfl rfl h8 ?_
      refine w_ld (.agg (innerCs a.inner)) (ld_var ho5 1 rfl (ld_agg sz_35 ag_35 rfl (show 3 ≤ 3 by decide))) ?_
      refine w_gd (dd := 17) rfl rfl h8 ?_
      refine w_fa (.ptr r4 5) (fa_ptr fd_37_2 sz_35 (by decide)) ?_
      try dsimp only [setD, List.set]
      refine w_gd (dd := 17) rfl rfl h8 ?_
      refine w_ld (.agg (innerCs b.inner)) (ld_var ho5 0 rfl (ld_agg sz_35 ag_35 rfl (show 3 ≤ 3 by decide))) ?_
      refine w_gd (dd := 17) rfl rfl h8 ?_
      refine w_cs _ (boolP (decide (a.inner = b.inner))) rfl (cl_cons (cl_agg (cl_innerCs ..)) (cl_cons (cl_agg (cl_innerCs ..)) (cl_nil _))) (run_cordwoodref08_Same a.inner b.inner (by assumption)) rfl (fun H => calm_s H _) ?_
      refine w_pk1 (boolP (decide (a.inner = b.inner))) rfl h8 rfl ?_
      refine w_as (boolP (decide (a.inner = b.inner))) rfl ?_
      try dsimp only [setD, List.set]
      refine w_nil ?_
      refine un_n ?_
      refine w_ret ?_
      refine ⟨.inr rfl, [(boolP (decide (a.inner = b.inner)))], [(boolP (decide (a.inner = b.inner)))], rfl, rfl, ?_⟩
      refine congrArg boolP (?_ : (decide (a.inner = b.inner)) = (decide (a = b)))
      first | (exfalso; omega) | (first | rfl | (cases a; cases b; simp_all; done))
    · have h8_ := of_decide_eq_false h8
      refine w_gn (dd := 17) rfl rfl h8 ?_
      refine w_gn (dd := 17) rfl rfl h8 ?_
      refine w_gn (dd := 17) rfl rfl h8 ?_
      try dsimp only [setD, List.set]
      refine w_gn (dd := 17) rfl rfl h8 ?_
      refine w_gn (dd := 17) rfl rfl h8 ?_
      refine w_pk0 (boolP false) rfl h8 rfl ?_
      refine w_as (boolP false) rfl ?_
      try dsimp only [setD, List.set]
      refine w_nil ?_
      refine un_n ?_
      refine w_ret ?_
      refine ⟨.inr rfl, [(boolP false)], [(boolP false)], rfl, rfl, ?_⟩
      refine congrArg boolP (?_ : false = (decide (a = b)))
      first | (exfalso; omega) | (first | rfl | (cases a; cases b; simp_all; done))
  · have h7_ := of_decide_eq_false h7
    refine w_gn (dd := 10) rfl rfl h7 ?_
    refine w_gn (dd := 10) rfl rfl h7 ?_
    try dsimp only [setD, List.set]
    refine w_gn (dd := 10) rfl rfl h7 ?_
    refine w_gn (dd := 10) rfl rfl h7 ?_
    refine w_gn (dd := 10) rfl rfl h7 ?_
    refine w_pk0 (boolP false) rfl h7 rfl ?_
    try dsimp only [setD, List.set]
    refine w_mv (boolP false) rfl ?_
    refine w_gn (dd := 17) rfl rfl rfl ?_
    refine w_gn (dd := 17) rfl rfl rfl ?_
    refine w_gn (dd := 17) rfl rfl rfl ?_
    try dsimp only [setD, List.set]
    refine w_gn (dd := 17) rfl rfl rfl ?_
    refine w_gn (dd := 17) rfl rfl rfl ?_
    refine w_pk0 (boolP false) rfl rfl rfl ?_
    refine w_as (boolP false) rfl ?_
    try dsimp only [setD, List.set]
    refine w_nil ?_
    refine un_n ?_
    refine w_ret ?_
    refine ⟨.inr rfl, [(boolP false)], [(boolP false)], rfl, rfl, ?_⟩
    refine congrArg boolP (?_ : false = (decide (a = b)))
    first | (exfalso; omega) | (first | rfl | (cases a; cases b; simp_all; done))
theorem run_node_Check (n : Node) (hn : WfN n) : Run C0 35 [(.agg (nodeCs n))] (i64P (nodeCheck n)) := by
  have hn : (n.inner.unmerged.length : Int) ≤ 9223372036854775807 := hn
  refine run_fn (C := C0) (c := _) [(.agg (nodeCs n)), undefP, undefP, undefP, undefP, undefP, undefP, undefP, undefP, undefP, undefP, undefP, undefP, undefP, undefP, undefP, undefP, undefP, undefP, undefP, undefP, undefP, undefP, undefP, undefP, undefP, undefP, undefP, undefP, undefP, undefP, undefP, undefP, undefP, undefP, undefP, undefP, undefP, undefP, undefP, undefP, undefP, undefP, undefP, undefP, undefP, undefP] Tryz.func35 rfl rfl rfl rfl ?_
  have ho := own_nil []
  refine w_seq ?_
  refine w_reg ?_
  refine w_box ho (nodeCs n) rfl (isC_node _) (fun _ r1 ho2 => ?_)
  refine w_as (i64P 0) rfl ?_
  try dsimp only [setD, List.set]
  refine w_nil ?_
  refine un_n ?_
  refine w_seq ?_
  refine w_block ?_
  refine w_seq ?_
  refine w_reg ?_
  refine w_fa (.ptr r1 0) (fa_ptr fd_37_0 sz_3 (by decide)) ?_
  refine w_ld (i64P n.kind) (ld_var ho2 0 rfl (ld_one sz_3 ag_3 rfl)) ?_
  refine w_bin (boolP (decide (n.kind < 0))) rfl ?_
  refine w_mv (boolP (decide (n.kind < 0))) rfl ?_
  try dsimp only [setD, List.set]
  rcases Bool.eq_false_or_eq_true (decide (n.kind < 0)) with h4 | h4
  · have h4_ := of_decide_eq_true h4
    refine w_gn (dd := 7) rfl rfl h4 ?_
    refine w_gn (dd := 7) rfl rfl h4 ?_
    refine w_gn (dd := 7) rfl rfl h4 ?_
    refine w_pk1 (boolP true) rfl h4 rfl ?_
    try dsimp only [setD, List.set]
    refine w_as (boolP true) rfl ?_
    try dsimp only [setD, List.set]
    refine w_nil ?_
    refine un_n ?_
    refine w_if1 rfl rfl ?_
    refine w_seq ?_
    refine w_reg ?_
    refine w_as (i64P 7) rfl ?_
    try dsimp only [setD, List.set]
    refine w_nil ?_
    refine un_n ?_
    refine w_ret ?_
    refine un_r ?_
    refine ⟨.inr rfl, [(i64P 7)], [(i64P 7)], rfl, rfl, ?_⟩
    refine congrArg i64P (?_ : 7 = (nodeCheck n))
    first | (exfalso; omega) | (have hl : noLeaf = ⟨[], [], 0, []⟩ := rfl; have hi : noInner = ⟨[], [], []⟩ := rfl; unfold nodeCheck; (repeat' split) <;> first | rfl | omega | (simp_all; done) | (simp_all; omega))
  · have h4_ := of_decide_eq_false h4
    refine w_gd (dd := 7) rfl rfl h4 ?_
    refine w_fa (.ptr r1 0) (fa_ptr fd_37_0 sz_3 (by decide)) ?_
    refine w_gd (dd := 7) rfl rfl h4 ?_
    refine w_ld (i64P n.kind) (ld_var ho2 0 rfl (ld_one sz_3 ag_3 rfl)) ?_
    refine w_gd (dd := 7) rfl rfl h4 ?_
    refine w_bin (boolP (decide (n.kind > 2))) rfl ?_
    refine w_pk0 (boolP (decide (n.kind > 2))) rfl h4 rfl ?_
    try dsimp only [setD, List.set]
    refine w_as (boolP (decide (n.kind > 2))) rfl ?_
    try dsimp only [setD, List.set]
    refine w_nil ?_
    refine un_n ?_
    refine w_if (decide (n.kind > 2)) rfl (fun h5 => ?_) (fun h5 => ?_)
    · have h5_ := of_decide_eq_true h5
      refine w_seq ?_
      refine w_reg ?_
      refine w_as (i64P 7) rfl ?_
      try dsimp only [setD, List.set]
      refine w_nil ?_
      refine un_n ?_
      refine w_ret ?_
      refine un_r ?_
      refine ⟨.inr rfl, [(i64P 7)], [(i64P 7)], rfl, rfl, ?_⟩
      refine congrArg i64P (?_ : 7 = (nodeCheck n))
      first | (exfalso; omega) | (have hl : noLeaf = ⟨[], [], 0, []⟩ := rfl; have hi : noInner = ⟨[], [], []⟩ := rfl; unfold nodeCheck; (repeat' split) <;> first | rfl | omega | (simp_all; done) | (simp_all; omega))
    · have h5_ := of_decide_eq_false h5
      refine w_seq ?_
      refine w_seq ?_
      refine w_reg ?_
      refine w_fa (.ptr r1 0) (fa_ptr fd_37_0 sz_3 (by decide)) ?_
      refine w_ld (i64P n.kind) (ld_var ho2 0 rfl (ld_one sz_3 ag_3 rfl)) ?_
      refine w_bin (boolP (!(decide (n.kind = 1)))) rfl ?_
      refine w_mv (boolP (!(decide (n.kind = 1)))) rfl ?_
      try dsimp only [setD, List.set]
      rcases Bool.eq_false_or_eq_true (!(decide (n.kind = 1))) with h6 | h6
      · have h6' := nb1 h6
        have h6'_ := of_decide_eq_false h6'
        refine w_gd (dd := 16) rfl rfl h6 ?_
        refine w_fa (.ptr r1 1) (fa_ptr fd_37_1 sz_25 (by decide)) ?_
        refine w_gd (dd := 16) rfl rfl h6 ?_
        refine w_ld (.agg (leafCs n.leaf)) (ld_var ho2 0 rfl (ld_agg sz_25 ag_25 rfl (show 4 ≤ 7 by decide))) ?_
        refine w_gd (dd := 16) rfl rfl h6 ?_
        refine w_bd (.agg [nilS, nilS, (i64P 0), nilS]) (bd_st zp_25 pl_25 fill_nil) ?_
        refine w_gd (dd := 16) rfl rfl h6 ?_
        refine w_cs _ (boolP (decide (n.leaf = (⟨[], [], 0, []⟩ : Leaf)))) rfl (cl_cons (cl_agg (cl_leafCs ..)) (cl_cons (cl_agg (cl_cons (cl_nilS ..) (cl_cons (cl_nilS ..) (cl_cons (cl_i64 ..) (cl_cons (cl_nilS ..) (cl_nil _)))))) (cl_nil _))) (run_leaf_Same n.leaf (⟨[], [], 0, []⟩ : Leaf)) rfl (fun H => calm_s H _) ?_
        try dsimp only [setD, List.set]
        refine w_gd (dd := 16) rfl rfl h6 ?_
        refine w_un (boolP (!(decide (n.leaf = (⟨[], [], 0, []⟩ : Leaf))))) rfl ?_
        refine w_pk1 (boolP (!(decide (n.leaf = (⟨[], [], 0, []⟩ : Leaf))))) rfl h6 rfl ?_
        refine w_as (boolP (!(decide (n.leaf = (⟨[], [], 0, []⟩ : Leaf))))) rfl ?_
        try dsimp only [setD, List.set]
        refine w_nil ?_
        refine un_n ?_
        refine w_if (!(decide (n.leaf = (⟨[], [], 0, []⟩ : Leaf)))) rfl (fun h7 => ?_) (fun h7 => ?_)
        · have h7' := nb1 h7
          have h7'_ := of_decide_eq_false h7'
          refine w_skip ?_
          refine un_n ?_
          refine w_if1 rfl h7 ?_
          refine w_seq ?_
          refine w_reg ?_
          refine w_as (i64P 2) rfl ?_
          try dsimp only [setD, List.set]
          refine w_nil ?_
          refine un_n ?_
          refine w_ret ?_
          refine un_r ?_
          refine ⟨.inr rfl, [(i64P 2)], [(i64P 2)], rfl, rfl, ?_⟩
          refine congrArg i64P (?_ : 2 = (nodeCheck n))
          first | (exfalso; omega) | (have hl : noLeaf = ⟨[], [], 0, []⟩ := rfl; have hi : noInner = ⟨[], [], []⟩ := rfl; unfold nodeCheck; (repeat' split) <;> first | rfl | omega | (simp_all; done) | (simp_all; omega))
        · have h7' := nb0 h7
          have h7'_ := of_decide_eq_true h7'
          refine w_reg ?_
          refine w_fa (.ptr r1 0) (fa_ptr fd_37_0 sz_3 (by decide)) ?_
          refine w_ld (i64P n.kind) (ld_var ho2 0 rfl (ld_one sz_3 ag_3 rfl)) ?_
          refine w_bin (boolP (!(decide (n.kind = 2)))) rfl ?_
          refine w_mv (boolP (!(decide (n.kind = 2)))) rfl ?_
          try dsimp only [setD, List.set]
          rcases Bool.eq_false_or_eq_true (!(decide (n.kind = 2))) with h8 | h8
          · have h8' := nb1 h8
            have h8'_ := of_decide_eq_false h8'
            refine w_gd (dd := 26) rfl rfl h8 ?_
            refine w_fa (.ptr r1 5) (fa_ptr fd_37_2 sz_35 (by decide)) ?_
            refine w_gd (dd := 26) rfl rfl h8 ?_
            refine w_ld (.agg (innerCs n.inner)) (ld_var ho2 0 rfl (ld_agg sz_35 ag_35 rfl (show 3 ≤ 3 by decide))) ?_
            refine w_gd (dd := 26) rfl rfl h8 ?_
            refine w_bd (.agg [nilS, nilS, nilS]) (bd_st zp_35 pl_35 fill_nil) ?_
            refine w_gd (dd := 26) rfl rfl h8 ?_
            refine w_cs _ (boolP (decide (n.inner = (⟨[], [], []⟩ : Inner)))) rfl (cl_cons (cl_agg (cl_innerCs ..)) (cl_cons (cl_agg (cl_cons (cl_nilS ..) (cl_cons (cl_nilS ..) (cl_cons (cl_nilS ..) (cl_nil _))))) (cl_nil _))) (run_parent_Same n.inner (⟨[], [], []⟩ : Inner) (by assumption)) rfl (fun H => calm_s H _) ?_
            try dsimp only [setD, List.set]
            refine w_gd (dd := 26) rfl rfl h8 ?_
            refine w_un (boolP (!(decide (n.inner = (⟨[], [], []⟩ : Inner))))) rfl ?_
            refine w_pk1 (boolP (!(decide (n.inner = (⟨[], [], []⟩ : Inner))))) rfl h8 rfl ?_
            refine w_as (boolP (!(decide (n.inner = (⟨[], [], []⟩ : Inner))))) rfl ?_
            try dsimp only [setD, List.set]
            refine w_nil ?_
            refine un_n ?_
            refine w_if (!(decide (n.inner = (⟨[], [], []⟩ : Inner)))) rfl (fun h9 => ?_) (fun h9 => ?_)
            · have h9' := nb1 h9
              have h9'_ := of_decide_eq_false h9'
              refine w_seq ?_
              refine w_reg ?_
              refine w_as (i64P 2) rfl ?_
              try dsimp only [setD, List.set]
              refine w_nil ?_
              refine un_n ?_
              refine w_ret ?_
              refine un_r ?_
              refine ⟨.inr rfl, [(i64P 2)], [(i64P 2)], rfl, rfl, ?_⟩
              refine congrArg i64P (?_ : 2 = (nodeCheck n))
              first | (exfalso; omega) | (have hl : noLeaf = ⟨[], [], 0, []⟩ := rfl; have hi : noInner = ⟨[], [], []⟩ := rfl; unfold nodeCheck; (repeat' split) <;> first | rfl | omega | (simp_all; done) | (simp_all; omega))
            · have h9' := nb0 h9
              have h9'_ := of_decide_eq_true h9'
              refine w_seq ?_
              refine w_reg ?_
              refine w_fa (.ptr r1 0) (fa_ptr fd_37_0 sz_3 (by decide)) ?_
              refine w_ld (i64P n.kind) (ld_var ho2 0 rfl (ld_one sz_3 ag_3 rfl)) ?_
              refine w_bin (boolP (decide (n.kind = 1))) rfl ?_
              refine w_as (boolP (decide (n.kind = 1))) rfl ?_
              try dsimp only [setD, List.set]
              refine w_nil ?_
              refine un_n ?_
              refine w_if0 rfl h6' ?_
              refine w_seq ?_
              refine w_reg ?_
              refine w_fa (.ptr r1 0) (fa_ptr fd_37_0 sz_3 (by decide)) ?_
              refine w_ld (i64P n.kind) (ld_var ho2 0 rfl (ld_one sz_3 ag_3 rfl)) ?_
              refine w_bin (boolP (decide (n.kind = 2))) rfl ?_
              refine w_as (boolP (decide (n.kind = 2))) rfl ?_
              try dsimp only [setD, List.set]
              refine w_nil ?_
              refine un_n ?_
              refine w_if0 rfl h8' ?_
              refine w_skip ?_
              refine un_n ?_
              refine w_seq ?_
              refine w_reg ?_
              refine w_as (i64P 0) rfl ?_
              try dsimp only [setD, List.set]
              refine w_nil ?_
              refine un_n ?_
              refine w_ret ?_
              refine ⟨.inr rfl, [(i64P 0)], [(i64P 0)], rfl, rfl, ?_⟩
              refine congrArg i64P (?_ : 0 = (nodeCheck n))
              first | (exfalso; omega) | (have hl : noLeaf = ⟨[], [], 0, []⟩ := rfl; have hi : noInner = ⟨[], [], []⟩ := rfl; unfold nodeCheck; (repeat' split) <;> first | rfl | omega | (simp_all; done) | (simp_all; omega))
          · have h8' := nb0 h8
            have h8'_ := of_decide_eq_true h8'
            refine w_gn (dd := 26) rfl rfl h8 ?_
            refine w_gn (dd := 26) rfl rfl h8 ?_
            refine w_gn (dd := 26) rfl rfl h8 ?_
            refine w_gn (dd := 26) rfl rfl h8 ?_
            try dsimp only [setD, List.set]
            refine w_gn (dd := 26) rfl rfl h8 ?_
            refine w_pk0 (boolP false) rfl h8 rfl ?_
            refine w_as (boolP false) rfl ?_
            try dsimp only [setD, List.set]
            refine w_nil ?_
            refine un_n ?_
            refine w_if0 rfl rfl ?_
            refine w_seq ?_
            refine w_reg ?_
            refine w_fa (.ptr r1 0) (fa_ptr fd_37_0 sz_3 (by decide)) ?_
            refine w_ld (i64P n.kind) (ld_var ho2 0 rfl (ld_one sz_3 ag_3 rfl)) ?_
            refine w_bin (boolP (decide (n.kind = 1))) rfl ?_
            refine w_as (boolP (decide (n.kind = 1))) rfl ?_
            try dsimp only [setD, List.set]
            refine w_nil ?_
            refine un_n ?_
            refine w_if0 rfl h6' ?_
            refine w_seq ?_
            refine w_reg ?_
            refine w_fa (.ptr r1 0) (fa_ptr fd_37_0 sz_3 (by decide)) ?_
            refine w_ld (i64P n.kind) (ld_var ho2 0 rfl (ld_one sz_3 ag_3 rfl)) ?_
            refine w_bin (boolP (decide (n.kind = 2))) rfl ?_
            refine w_as (boolP (decide (n.kind = 2))) rfl ?_
            try dsimp only [setD, List.set]
            refine w_nil ?_
            refine un_n ?_
            refine w_if1 rfl h8' ?_
            refine w_seq ?_
            refine w_reg ?_
            refine w_fa (.ptr r1 5) (fa_ptr fd_37_2 sz_35 (by decide)) ?_
            refine w_ld (.agg (innerCs n.inner)) (ld_var ho2 0 rfl (ld_agg sz_35 ag_35 rfl (show 3 ≤ 3 by decide))) ?_
            refine w_cs _ (i64P (parentCheck n.inner)) rfl (cl_cons (cl_agg (cl_innerCs ..)) (cl_nil _)) (run_parent_Check0 n.inner (by assumption)) rfl (fun H => calm_s H _) ?_
            refine w_as (i64P (parentCheck n.inner)) rfl ?_
            try dsimp only [setD, List.set]
            refine w_nil ?_
            refine un_n ?_
            refine w_ret ?_
            refine un_r ?_
            refine ⟨.inr rfl, [(i64P (parentCheck n.inner))], [(i64P (parentCheck n.inner))], rfl, rfl, ?_⟩
            refine congrArg i64P (?_ : (parentCheck n.inner) = (nodeCheck n))
            first | (exfalso; omega) | (have hl : noLeaf = ⟨[], [], 0, []⟩ := rfl; have hi : noInner = ⟨[], [], []⟩ := rfl; unfold nodeCheck; (repeat' split) <;> first | rfl | omega | (simp_all; done) | (simp_all; omega))
      · have h6' := nb0 h6
        have h6'_ := of_decide_eq_true h6'
        refine w_gn (dd := 16) rfl rfl h6 ?_
        refine w_gn (dd := 16) rfl rfl h6 ?_
        refine w_gn (dd := 16) rfl rfl h6 ?_
        refine w_gn (dd := 16) rfl rfl h6 ?_
        try dsimp only [setD, List.set]
        refine w_gn (dd := 16) rfl rfl h6 ?_
        refine w_pk0 (boolP false) rfl h6 rfl ?_
        refine w_as (boolP false) rfl ?_
        try dsimp only [setD, List.set]
        refine w_nil ?_
        refine un_n ?_
        refine w_if0 rfl rfl ?_
        refine w_reg ?_
        refine w_fa (.ptr r1 0) (fa_ptr fd_37_0 sz_3 (by decide)) ?_
        refine w_ld (i64P n.kind) (ld_var ho2 0 rfl (ld_one sz_3 ag_3 rfl)) ?_
        refine w_bin (boolP (!(decide (n.kind = 2)))) rfl ?_
        refine w_mv (boolP (!(decide (n.kind = 2)))) rfl ?_
        try dsimp only [setD, List.set]
        rcases Bool.eq_false_or_eq_true (!(decide (n.kind = 2))) with h10 | h10
        · have h10' := nb1 h10
          have h10'_ := of_decide_eq_false h10'
          refine w_gd (dd := 26) rfl rfl h10 ?_
          refine w_fa (.ptr r1 5) (fa_ptr fd_37_2 sz_35 (by decide)) ?_
          refine w_gd (dd := 26) rfl rfl h10 ?_
          refine w_ld (.agg (innerCs n.inner)) (ld_var ho2 0 rfl (ld_agg sz_35 ag_35 rfl (show 3 ≤ 3 by decide))) ?_
          refine w_gd (dd := 26) rfl rfl h10 ?_
          refine w_bd (.agg [nilS, nilS, nilS]) (bd_st zp_35 pl_35 fill_nil) ?_
          refine w_gd (dd := 26) rfl rfl h10 ?_
          refine w_cs _ (boolP (decide (n.inner = (⟨[], [], []⟩ : Inner)))) rfl (cl_cons (cl_agg (cl_innerCs ..)) (cl_cons (cl_agg (cl_cons (cl_nilS ..) (cl_cons (cl_nilS ..) (cl_cons (cl_nilS ..) (cl_nil _))))) (cl_nil _))) (run_parent_Same n.inner (⟨[], [], []⟩ : Inner) (by assumption)) rfl (fun H => calm_s H _) ?_
          try dsimp only [setD, List.set]
          refine w_gd (dd := 26) rfl rfl h10 ?_
          refine w_un (boolP (!(decide (n.inner = (⟨[], [], []⟩ : Inner))))) rfl ?_
          refine w_pk1 (boolP (!(decide (n.inner = (⟨[], [], []⟩ : Inner))))) rfl h10 rfl ?_
          refine w_as (boolP (!(decide (n.inner = (⟨[], [], []⟩ : Inner))))) rfl ?_
          try dsimp only [setD, List.set]
          refine w_nil ?_
          refine un_n ?_
          refine w_if (!(decide (n.inner = (⟨[], [], []⟩ : Inner)))) rfl (fun h11 => ?_) (fun h11 => ?_)
          · have h11' := nb1 h11
            have h11'_ := of_decide_eq_false h11'
            refine w_seq ?_
            refine w_reg ?_
            refine w_as (i64P 2) rfl ?_
            try dsimp only [setD, List.set]
            refine w_nil ?_
            refine un_n ?_
            refine w_ret ?_
            refine un_r ?_
            refine ⟨.inr rfl, [(i64P 2)], [(i64P 2)], rfl, rfl, ?_⟩
            refine congrArg i64P (?_ : 2 = (nodeCheck n))
            first | (exfalso; omega) | (have hl : noLeaf = ⟨[], [], 0, []⟩ := rfl; have hi : noInner = ⟨[], [], []⟩ := rfl; unfold nodeCheck; (repeat' split) <;> first | rfl | omega | (simp_all; done) | (simp_all; omega))
          · have h11' := nb0 h11
            have h11'_ := of_decide_eq_true h11'
            refine w_seq ?_
            refine w_reg ?_
            refine w_fa (.ptr r1 0) (fa_ptr fd_37_0 sz_3 (by decide)) ?_
            refine w_ld (i64P n.kind) (ld_var ho2 0 rfl (ld_one sz_3 ag_3 rfl)) ?_
            refine w_bin (boolP (decide (n.kind = 1))) rfl ?_
            refine w_as (boolP (decide (n.kind = 1))) rfl ?_
            try dsimp only [setD, List.set]
            refine w_nil ?_
            refine un_n ?_
            refine w_if1 rfl h6' ?_
            refine w_seq ?_
            refine w_reg ?_
            refine w_fa (.ptr r1 1) (fa_ptr fd_37_1 sz_25 (by decide)) ?_
            refine w_ld (.agg (leafCs n.leaf)) (ld_var ho2 0 rfl (ld_agg sz_25 ag_25 rfl (show 4 ≤ 7 by decide))) ?_
            refine w_cs _ (i64P (leafCheck n.leaf)) rfl (cl_cons (cl_agg (cl_leafCs ..)) (cl_nil _)) (run_leaf_Check0 n.leaf) rfl (fun H => calm_s H _) ?_
            refine w_as (i64P (leafCheck n.leaf)) rfl ?_
            try dsimp only [setD, List.set]
            refine w_nil ?_
            refine un_n ?_
            refine w_ret ?_
            refine un_r ?_
            refine ⟨.inr rfl, [(i64P (leafCheck n.leaf))], [(i64P (leafCheck n.leaf))], rfl, rfl, ?_⟩
            refine congrArg i64P (?_ : (leafCheck n.leaf) = (nodeCheck n))
            first | (exfalso; omega) | (have hl : noLeaf = ⟨[], [], 0, []⟩ := rfl; have hi : noInner = ⟨[], [], []⟩ := rfl; unfold nodeCheck; (repeat' split) <;> first | rfl | omega | (simp_all; done) | (simp_all; omega))
        · have h10' := nb0 h10
          have h10'_ := of_decide_eq_true h10'
          refine w_gn (dd := 26) rfl rfl h10 ?_
          refine w_gn (dd := 26) rfl rfl h10 ?_
          refine w_gn (dd := 26) rfl rfl h10 ?_
          refine w_gn (dd := 26) rfl rfl h10 ?_
          try dsimp only [setD, List.set]
          refine w_gn (dd := 26) rfl rfl h10 ?_
          refine w_pk0 (boolP false) rfl h10 rfl ?_
          refine w_as (boolP false) rfl ?_
          try dsimp only [setD, List.set]
          refine w_nil ?_
          refine un_n ?_
          refine w_if0 rfl rfl ?_
          refine w_seq ?_
          refine w_reg ?_
          refine w_fa (.ptr r1 0) (fa_ptr fd_37_0 sz_3 (by decide)) ?_
          refine w_ld (i64P n.kind) (ld_var ho2 0 rfl (ld_one sz_3 ag_3 rfl)) ?_
          refine w_bin (boolP (decide (n.kind = 1))) rfl ?_
          refine w_as (boolP (decide (n.kind = 1))) rfl ?_
          try dsimp only [setD, List.set]
          refine w_nil ?_
          refine un_n ?_
          refine w_if1 rfl h6' ?_
          refine w_seq ?_
          refine w_reg ?_
          refine w_fa (.ptr r1 1) (fa_ptr fd_37_1 sz_25 (by decide)) ?_
          refine w_ld (.agg (leafCs n.leaf)) (ld_var ho2 0 rfl (ld_agg sz_25 ag_25 rfl (show 4 ≤ 7 by decide))) ?_
          refine w_cs _ (i64P (leafCheck n.leaf)) rfl (cl_cons (cl_agg (cl_leafCs ..)) (cl_nil _)) (run_leaf_Check0 n.leaf) rfl (fun H => calm_s H _) ?_
          refine w_as (i64P (leafCheck n.leaf)) rfl ?_
          try dsimp only [setD, List.set]
          refine w_nil ?_
          refine un_n ?_
          refine w_ret ?_
          refine un_r ?_
          refine ⟨.inr rfl, [(i64P (leafCheck n.leaf))], [(i64P (leafCheck n.leaf))], rfl, rfl, ?_⟩
          refine congrArg i64P (?_ : (leafCheck n.leaf) = (nodeCheck n))
          first | (exfalso; omega) | (have hl : noLeaf = ⟨[], [], 0, []⟩ := rfl; have hi : noInner = ⟨[], [], []⟩ := rfl; unfold nodeCheck; (repeat' split) <;> first | rfl | omega | (simp_all; done) | (simp_all; omega))
end Go.Proofs.YtkkdkhacligaoaaGreatDoor.law
