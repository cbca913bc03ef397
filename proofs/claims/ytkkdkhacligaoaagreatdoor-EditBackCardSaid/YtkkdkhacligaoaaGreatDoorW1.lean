/- Walks: what functions of the program come to, as the pure interpreter runs them. -/
import Derived.Test.YtkkdkhacligaoaaGreatDoorFacts
set_option linter.unusedSimpArgs false
set_option linter.unusedVariables false
namespace Go.Proofs.YtkkdkhacligaoaaGreatDoor.law
open Go.PI
theorem run_shape_fits (x : Int) (kind : Int) (hx : 0 ≤ x) : Run C0 34 [(i64P x), (i64P kind)] (boolP (fits x kind)) := by
  refine run_fn (C := C0) (c := _) [(i64P x), (i64P kind), undefP, undefP, undefP, undefP, undefP, undefP, undefP, undefP, undefP, undefP] Tryz.func34 rfl rfl rfl rfl ?_
  have ho := own_nil []
  refine w_seq ?_
  refine w_reg ?_
  refine w_as (boolP false) rfl ?_
  try dsimp only [setD, List.set]
  refine w_nil ?_
  refine un_n ?_
  refine w_seq ?_
  refine w_seq ?_
  refine w_reg ?_
  refine w_mv (i64P x) rfl ?_
  refine w_bin (i64P (x % 2)) (b_rem rfl rfl (by omega) (by omega)) ?_
  refine w_bin (boolP (decide ((x % 2) = 0))) rfl ?_
  try dsimp only [setD, List.set]
  refine w_nil ?_
  refine un_n ?_
  refine w_if (decide ((x % 2) = 0)) rfl (fun h1 => ?_) (fun h1 => ?_)
  · have h1_ := of_decide_eq_true h1
    refine w_seq ?_
    refine w_reg ?_
    refine w_mv (i64P kind) rfl ?_
    refine w_bin (boolP (!(decide (kind = 2)))) rfl ?_
    refine w_as (boolP (!(decide (kind = 2)))) rfl ?_
    try dsimp only [setD, List.set]
    refine w_nil ?_
    refine un_n ?_
    refine w_ret ?_
    refine un_r ?_
    refine ⟨.inr rfl, [(boolP (!(decide (kind = 2))))], [(boolP (!(decide (kind = 2))))], rfl, rfl, ?_⟩
    refine congrArg boolP (?_ : (!(decide (kind = 2))) = (fits x kind))
    first | (exfalso; omega) | (first | rfl | (simp_all [fits]; done) | (simp_all [fits]; omega))
  · have h1_ := of_decide_eq_false h1
    refine w_skip ?_
    refine un_n ?_
    refine w_seq ?_
    refine w_reg ?_
    refine w_mv (i64P kind) rfl ?_
    refine w_bin (boolP (!(decide (kind = 1)))) rfl ?_
    refine w_as (boolP (!(decide (kind = 1)))) rfl ?_
    try dsimp only [setD, List.set]
    refine w_nil ?_
    refine un_n ?_
    refine w_ret ?_
    refine ⟨.inr rfl, [(boolP (!(decide (kind = 1))))], [(boolP (!(decide (kind = 1))))], rfl, rfl, ?_⟩
    refine congrArg boolP (?_ : (!(decide (kind = 1))) = (fits x kind))
    first | (exfalso; omega) | (first | rfl | (simp_all [fits]; done) | (simp_all [fits]; omega))
theorem run_bytes_Equal (a : List UInt8) (b : List UInt8) : Run C0 65 [(octP a), (octP b)] (boolP (decide (a = b))) := by
  refine run_fn (C := C0) (c := _) [(octP a), (octP b), undefP, undefP, undefP, undefP, undefP, undefP, undefP, undefP] Tryz.func65 rfl rfl rfl rfl ?_
  have ho := own_nil []
  refine w_seq ?_
  refine w_reg ?_
  refine w_as (boolP false) rfl ?_
  try dsimp only [setD, List.set]
  refine w_nil ?_
  refine un_n ?_
  refine w_seq ?_
  refine w_reg ?_
  refine w_mv (octP a) rfl ?_
  refine w_cv (.s (.string ⟨a.toArray⟩)) (cv_lst kd_9 st_9 el_23 kd_5 _) ?_
  refine w_mv (octP b) rfl ?_
  refine w_cv (.s (.string ⟨b.toArray⟩)) (cv_lst kd_9 st_9 el_23 kd_5 _) ?_
  try dsimp only [setD, List.set]
  refine w_bin (boolP (decide (a = b))) (b_streq rfl rfl) ?_
  refine w_as (boolP (decide (a = b))) rfl ?_
  try dsimp only [setD, List.set]
  refine w_nil ?_
  refine un_n ?_
  refine w_ret ?_
  refine ⟨.inr rfl, [(boolP (decide (a = b)))], [(boolP (decide (a = b)))], rfl, rfl, ?_⟩
  refine congrArg boolP (?_ : (decide (a = b)) = (decide (a = b)))
  first | (exfalso; omega) | (first | rfl | (simp_all []; done) | (simp_all []; omega))
theorem run_leaf_Same (a : Leaf) (b : Leaf) : Run C0 76 [(.agg (leafCs a)), (.agg (leafCs b))] (boolP (decide (a = b))) := by
  refine run_fn (C := C0) (c := _) [(.agg (leafCs a)), (.agg (leafCs b)), undefP, undefP, undefP, undefP, undefP, undefP, undefP, undefP, undefP, undefP, undefP, undefP, undefP, undefP, undefP, undefP, undefP, undefP, undefP, undefP, undefP, undefP, undefP, undefP, undefP, undefP, undefP, undefP, undefP] Tryz.func76 rfl rfl rfl rfl ?_
  have ho := own_nil []
  refine w_seq ?_
  refine w_reg ?_
  refine w_box ho (leafCs a) rfl (isC_leaf _) (fun _ r1 ho2 => ?_)
  refine w_box ho2 (leafCs b) rfl (isC_leaf _) (fun _ r4 ho5 => ?_)
  refine w_as (boolP false) rfl ?_
  try dsimp only [setD, List.set]
  refine w_nil ?_
  refine un_n ?_
  refine w_seq ?_
  refine w_reg ?_
  refine w_fa (.ptr r1 2) (fa_ptr fd_25_2 sz_3 (by decide)) ?_
  refine w_ld (i64P a.source) (ld_var ho5 1 rfl (ld_one sz_3 ag_3 rfl)) ?_
  refine w_fa (.ptr r4 2) (fa_ptr fd_25_2 sz_3 (by decide)) ?_
  refine w_ld (i64P b.source) (ld_var ho5 0 rfl (ld_one sz_3 ag_3 rfl)) ?_
  try dsimp only [setD, List.set]
  refine w_bin (boolP (decide (a.source = b.source))) rfl ?_
  refine w_mv (boolP (decide (a.source = b.source))) rfl ?_
  rcases Bool.eq_false_or_eq_true (decide (a.source = b.source)) with h7 | h7
  · have h7_ := of_decide_eq_true h7
    refine w_gd (dd := 10) rfl rfl h7 ?_
    refine w_fa (.ptr r1 0) (fa_ptr fd_25_0 sz_23 (by decide)) ?_
    refine w_gd (dd := 10) rfl rfl h7 ?_
    refine w_ld (octP a.enc) (ld_var ho5 1 rfl (ld_one sz_23 ag_23 rfl)) ?_
    try dsimp only [setD, List.set]
    refine w_gd (dd := 10) rfl rfl h7 ?_
    refine w_fa (.ptr r4 0) (fa_ptr fd_25_0 sz_23 (by decide)) ?_
    refine w_gd (dd := 10) rfl rfl h7 ?_
    refine w_ld (octP b.enc) (ld_var ho5 0 rfl (ld_one sz_23 ag_23 rfl)) ?_
    refine w_gd (dd := 10) rfl rfl h7 ?_
    refine w_cs _ (boolP (decide (a.enc = b.enc))) rfl (cl_cons (cl_oct ..) (cl_cons (cl_oct ..) (cl_nil _))) (run_bytes_Equal a.enc b.enc) rfl (fun H => calm_s H _) ?_
    refine w_pk1 (boolP (decide (a.enc = b.enc))) rfl h7 rfl ?_
    try dsimp only [setD, List.set]
    refine w_mv (boolP (decide (a.enc = b.enc))) rfl ?_
    rcases Bool.eq_false_or_eq_true (decide (a.enc = b.enc)) with h8 | h8
    · have h8_ := of_decide_eq_true h8
      refine w_gd (dd := 17) rfl rfl h8 ?_
      refine w_fa (.ptr r1 1) (fa_ptr fd_25_1 sz_23 (by decide)) ?_
      refine w_gd (dd := 17) rfl rfl h8 ?_
      refine w_ld (octP a.cred) (ld_var ho5 1 rfl (ld_one sz_23 ag_23 rfl)) ?_
      refine w_gd (dd := 17) rfl rfl h8 ?_
      refine w_fa (.ptr r4 1) (fa_ptr fd_25_1 sz_23 (by decide)) ?_
      try dsimp only [setD, List.set]
      refine w_gd (dd := 17) rfl rfl h8 ?_
      refine w_ld (octP b.cred) (ld_var ho5 0 rfl (ld_one sz_23 ag_23 rfl)) ?_
      refine w_gd (dd := 17) rfl rfl h8 ?_
      refine w_cs _ (boolP (decide (a.cred = b.cred))) rfl (cl_cons (cl_oct ..) (cl_cons (cl_oct ..) (cl_nil _))) (run_bytes_Equal a.cred b.cred) rfl (fun H => calm_s H _) ?_
      refine w_pk1 (boolP (decide (a.cred = b.cred))) rfl h8 rfl ?_
      refine w_mv (boolP (decide (a.cred = b.cred))) rfl ?_
      try dsimp only [setD, List.set]
      rcases Bool.eq_false_or_eq_true (decide (a.cred = b.cred)) with h9 | h9
      · have h9_ := of_decide_eq_true h9
        refine w_gd (dd := 24) rfl rfl h9 ?_
        refine w_fa (.ptr r1 3) (fa_ptr fd_25_3 sz_23 (by decide)) ?_
        refine w_gd (dd := 24) rfl rfl h9 ?_
        refine w_ld (octP a.parent) (ld_var ho5 1 rfl (ld_one sz_23 ag_23 rfl)) ?_
        refine w_gd (dd := 24) rfl rfl h9 ?_
        refine w_fa (.ptr r4 3) (fa_ptr fd_25_3 sz_23 (by decide)) ?_
        refine w_gd (dd := 24) rfl rfl h9 ?_
        refine w_ld (octP b.parent) (ld_var ho5 0 rfl (ld_one sz_23 ag_23 rfl)) ?_
        try dsimp only [setD, List.set]
        refine w_gd (dd := 24) rfl rfl h9 ?_
        refine w_cs _ (boolP (decide (a.parent = b.parent))) rfl (cl_cons (cl_oct ..) (cl_cons (cl_oct ..) (cl_nil _))) (run_bytes_Equal a.parent b.parent) rfl (fun H => calm_s H _) ?_
        refine w_pk1 (boolP (decide (a.parent = b.parent))) rfl h9 rfl ?_
        refine w_as (boolP (decide (a.parent = b.parent))) rfl ?_
        try dsimp only [setD, List.set]
        refine w_nil ?_
        refine un_n ?_
        refine w_ret ?_
        refine ⟨.inr rfl, [(boolP (decide (a.parent = b.parent)))], [(boolP (decide (a.parent = b.parent)))], rfl, rfl, ?_⟩
        refine congrArg boolP (?_ : (decide (a.parent = b.parent)) = (decide (a = b)))
        first | (exfalso; omega) | (first | rfl | (cases a; cases b; simp_all; done))
      · have h9_ := of_decide_eq_false h9
        refine w_gn (dd := 24) rfl rfl h9 ?_
        refine w_gn (dd := 24) rfl rfl h9 ?_
        refine w_gn (dd := 24) rfl rfl h9 ?_
        refine w_gn (dd := 24) rfl rfl h9 ?_
        try dsimp only [setD, List.set]
        refine w_gn (dd := 24) rfl rfl h9 ?_
        refine w_pk0 (boolP false) rfl h9 rfl ?_
        refine w_as (boolP false) rfl ?_
        try dsimp only [setD, List.set]
        refine w_nil ?_
        refine un_n ?_
        refine w_ret ?_
        refine ⟨.inr rfl, [(boolP false)], [(boolP false)], rfl, rfl, ?_⟩
        refine congrArg boolP (?_ : false = (decide (a = b)))
        first | (exfalso; omega) | (first | rfl | (cases a; cases b; simp_all; done))
    · have h8_ := of_decide_eq_false h8
      refine w_gn (dd := 17) rfl rfl h8 ?_
      refine w_gn (dd := 17) rfl rfl h8 ?_
      refine w_gn (dd := 17) rfl rfl h8 ?_
      try dsimp only [setD, List.set]
      refine w_gn (dd := 17) rfl rfl h8 ?_
      refine w_gn (dd := 17) rfl rfl h8 ?_
      refine w_pk0 (boolP false) rfl h8 rfl ?_
      refine w_mv (boolP false) rfl ?_
      try dsimp only [setD, List.set]
      refine w_gn (dd := 24) rfl rfl rfl ?_
      refine w_gn (dd := 24) rfl rfl rfl ?_
      refine w_gn (dd := 24) rfl rfl rfl ?_
      refine w_gn (dd := 24) rfl rfl rfl ?_
      try dsimp only [setD, List.set]
      refine w_gn (dd := 24) rfl rfl rfl ?_
      refine w_pk0 (boolP false) rfl rfl rfl ?_
      refine w_as (boolP false) rfl ?_
      try dsimp only [setD, List.set]
      refine w_nil ?_
      refine un_n ?_
      refine w_ret ?_
      refine ⟨.inr rfl, [(boolP false)], [(boolP false)], rfl, rfl, ?_⟩
      refine congrArg boolP (?_ : false = (decide (a = b)))
      first | (exfalso; omega) | (first | rfl | (cases a; cases b; simp_all; done))
  · have h7_ := of_decide_eq_false h7
    refine w_gn (dd := 10) rfl rfl h7 ?_
    refine w_gn (dd := 10) rfl rfl h7 ?_
    try dsimp only [setD, List.set]
    refine w_gn (dd := 10) rfl rfl h7 ?_
    refine w_gn (dd := 10) rfl rfl h7 ?_
    refine w_gn (dd := 10) rfl rfl h7 ?_
    refine w_pk0 (boolP false) rfl h7 rfl ?_
    try dsimp only [setD, List.set]
    refine w_mv (boolP false) rfl ?_
    refine w_gn (dd := 17) rfl rfl rfl ?_
    refine w_gn (dd := 17) rfl rfl rfl ?_
    refine w_gn (dd := 17) rfl rfl rfl ?_
    try dsimp only [setD, List.set]
    refine w_gn (dd := 17) rfl rfl rfl ?_
    refine w_gn (dd := 17) rfl rfl rfl ?_
    refine w_pk0 (boolP false) rfl rfl rfl ?_
    refine w_mv (boolP false) rfl ?_
    try dsimp only [setD, List.set]
    refine w_gn (dd := 24) rfl rfl rfl ?_
    refine w_gn (dd := 24) rfl rfl rfl ?_
    refine w_gn (dd := 24) rfl rfl rfl ?_
    refine w_gn (dd := 24) rfl rfl rfl ?_
    try dsimp only [setD, List.set]
    refine w_gn (dd := 24) rfl rfl rfl ?_
    refine w_pk0 (boolP false) rfl rfl rfl ?_
    refine w_as (boolP false) rfl ?_
    try dsimp only [setD, List.set]
    refine w_nil ?_
    refine un_n ?_
    refine w_ret ?_
    refine ⟨.inr rfl, [(boolP false)], [(boolP false)], rfl, rfl, ?_⟩
    refine congrArg boolP (?_ : false = (decide (a = b)))
    first | (exfalso; omega) | (first | rfl | (cases a; cases b; simp_all; done))
theorem run_cordwoodref07_Same (a : Leaf) (b : Leaf) : Run C0 86 [(.agg (leafCs a)), (.agg (leafCs b))] (boolP (decide (a = b))) := by
  refine run_fn (C := C0) (c := _) [(.agg (leafCs a)), (.agg (leafCs b)), undefP, undefP, undefP, undefP, undefP, undefP, undefP, undefP, undefP, undefP, undefP, undefP, undefP, undefP, undefP, undefP, undefP, undefP, undefP, undefP, undefP, undefP, undefP, undefP, undefP, undefP, undefP, undefP, undefP, undefP, undefP, undefP, undefP, undefP, undefP] Tryz.func86 rfl rfl rfl rfl ?_
  have ho := own_nil []
  refine w_seq ?_
  refine w_reg ?_
  refine w_box ho (leafCs a) rfl (isC_leaf _) (fun _ r1 ho2 => ?_)
  refine w_box ho2 (leafCs b) rfl (isC_leaf _) (fun _ r4 ho5 => ?_)
  refine w_as (boolP false) rfl ?_
  try dsimp only [setD, List.set]
  refine w_nil ?_
  refine un_n ?_
  refine w_seq ?_
  refine w_reg ?_
  refine w_fa (.ptr r1 0) (fa_ptr fd_25_0 sz_23 (by decide)) ?_
  refine w_ld (octP a.enc) (ld_var ho5 1 rfl (ld_one sz_23 ag_23 rfl)) ?_
  refine w_cv (.s (.string ⟨a.enc.toArray⟩)) (cv_lst kd_9 st_9 el_23 kd_5 _) ?_
  refine w_fa (.ptr r4 0) (fa_ptr fd_25_0 sz_23 (by decide)) ?_
  try dsimp only [setD, List.set]
  refine w_ld (octP b.enc) (ld_var ho5 0 rfl (ld_one sz_23 ag_23 rfl)) ?_
  refine w_cv (.s (.string ⟨b.enc.toArray⟩)) (cv_lst kd_9 st_9 el_23 kd_5 _) ?_
  refine w_bin (boolP (decide (a.enc = b.enc))) (b_streq rfl rfl) ?_
  refine w_mv (boolP (decide (a.enc = b.enc))) rfl ?_
  try dsimp only [setD, List.set]
  rcases Bool.eq_false_or_eq_true (decide (a.enc = b.enc)) with h7 | h7
  · have h7_ := of_decide_eq_true h7
    refine w_gd (dd := 12) rfl rfl h7 ?_
    refine w_fa (.ptr r1 1) (fa_ptr fd_25_1 sz_23 (by decide)) ?_
    refine w_gd (dd := 12) rfl rfl h7 ?_
    refine w_ld (octP a.cred) (ld_var ho5 1 rfl (ld_one sz_23 ag_23 rfl)) ?_
    refine w_gd (dd := 12) rfl rfl h7 ?_
    refine w_cv (.s (.string ⟨a.cred.toArray⟩)) (cv_lst kd_9 st_9 el_23 kd_5 _) ?_
    refine w_gd (dd := 12) rfl rfl h7 ?_
    refine w_fa (.ptr r4 1) (fa_ptr fd_25_1 sz_23 (by decide)) ?_
    try dsimp only [setD, List.set]
    refine w_gd (dd := 12) rfl rfl h7 ?_
    refine w_ld (octP b.cred) (ld_var ho5 0 rfl (ld_one sz_23 ag_23 rfl)) ?_
    refine w_gd (dd := 12) rfl rfl h7 ?_
    refine w_cv (.s (.string ⟨b.cred.toArray⟩)) (cv_lst kd_9 st_9 el_23 kd_5 _) ?_
    refine w_gd (dd := 12) rfl rfl h7 ?_
    refine w_bin (boolP (decide (a.cred = b.cred))) (b_streq rfl rfl) ?_
    refine w_pk1 (boolP (decide (a.cred = b.cred))) rfl h7 rfl ?_
    try dsimp only [setD, List.set]
    refine w_mv (boolP (decide (a.cred = b.cred))) rfl ?_
    rcases Bool.eq_false_or_eq_true (decide (a.cred = b.cred)) with h8 | h8
    · have h8_ := of_decide_eq_true h8
      refine w_gd (dd := 21) rfl rfl h8 ?_
      refine w_fa (.ptr r1 2) (fa_ptr fd_25_2 sz_3 (by decide)) ?_
      refine w_gd (dd := 21) rfl rfl h8 ?_
      refine w_ld (i64P a.source) (ld_var ho5 1 rfl (ld_one sz_3 ag_3 rfl)) ?_
      refine w_gd (dd := 21) rfl rfl h8 ?_
      refine w_fa (.ptr r4 2) (fa_ptr fd_25_2 sz_3 (by decide)) ?_
      try dsimp only [setD, List.set]
      refine w_gd (dd := 21) rfl rfl h8 ?_
      refine w_ld (i64P b.source) (ld_var ho5 0 rfl (ld_one sz_3 ag_3 rfl)) ?_
      refine w_gd (dd := 21) rfl rfl h8 ?_
      refine w_bin (boolP (decide (a.source = b.source))) rfl ?_
      refine w_pk1 (boolP (decide (a.source = b.source))) rfl h8 rfl ?_
      refine w_mv (boolP (decide (a.source = b.source))) rfl ?_
      try dsimp only [setD, List.set]
      rcases Bool.eq_false_or_eq_true (decide (a.source = b.source)) with h9 | h9
      · have h9_ := of_decide_eq_true h9
        refine w_gd (dd := 28) rfl rfl h9 ?_
        refine w_fa (.ptr r1 3) (fa_ptr fd_25_3 sz_23 (by decide)) ?_
        refine w_gd (dd := 28) rfl rfl h9 ?_
        refine w_ld (octP a.parent) (ld_var ho5 1 rfl (ld_one sz_23 ag_23 rfl)) ?_
        refine w_gd (dd := 28) rfl rfl h9 ?_
        refine w_cv (.s (.string ⟨a.parent.toArray⟩)) (cv_lst kd_9 st_9 el_23 kd_5 _) ?_
        refine w_gd (dd := 28) rfl rfl h9 ?_
        refine w_fa (.ptr r4 3) (fa_ptr fd_25_3 sz_23 (by decide)) ?_
        try dsimp only [setD, List.set]
        refine w_gd (dd := 28) rfl rfl h9 ?_
        refine w_ld (octP b.parent) (ld_var ho5 0 rfl (ld_one sz_23 ag_23 rfl)) ?_
        refine w_gd (dd := 28) rfl rfl h9 ?_
        refine w_cv (.s (.string ⟨b.parent.toArray⟩)) (cv_lst kd_9 st_9 el_23 kd_5 _) ?_
        refine w_gd (dd := 28) rfl rfl h9 ?_
        refine w_bin (boolP (decide (a.parent = b.parent))) (b_streq rfl rfl) ?_
        refine w_pk1 (boolP (decide (a.parent = b.parent))) rfl h9 rfl ?_
        try dsimp only [setD, List.set]
        refine w_as (boolP (decide (a.parent = b.parent))) rfl ?_
        try dsimp only [setD, List.set]
        refine w_nil ?_
        refine un_n ?_
        refine w_ret ?_
        refine ⟨.inr rfl, [(boolP (decide (a.parent = b.parent)))], [(boolP (decide (a.parent = b.parent)))], rfl, rfl, ?_⟩
        refine congrArg boolP (?_ : (decide (a.parent = b.parent)) = (decide (a = b)))
        first | (exfalso; omega) | (first | rfl | (cases a; cases b; simp_all; done))
      · have h9_ := of_decide_eq_false h9
        refine w_gn (dd := 28) rfl rfl h9 ?_
        refine w_gn (dd := 28) rfl rfl h9 ?_
        refine w_gn (dd := 28) rfl rfl h9 ?_
        refine w_gn (dd := 28) rfl rfl h9 ?_
        try dsimp only [setD, List.set]
        refine w_gn (dd := 28) rfl rfl h9 ?_
        refine w_gn (dd := 28) rfl rfl h9 ?_
        refine w_gn (dd := 28) rfl rfl h9 ?_
        refine w_pk0 (boolP false) rfl h9 rfl ?_
        try dsimp only [setD, List.set]
        refine w_as (boolP false) rfl ?_
        try dsimp only [setD, List.set]
        refine w_nil ?_
        refine un_n ?_
        refine w_ret ?_
        refine ⟨.inr rfl, [(boolP false)], [(boolP false)], rfl, rfl, ?_⟩
        refine congrArg boolP (?_ : false = (decide (a = b)))
        first | (exfalso; omega) | (first | rfl | (cases a; cases b; simp_all; done))
    · have h8_ := of_decide_eq_false h8
      refine w_gn (dd := 21) rfl rfl h8 ?_
      refine w_gn (dd := 21) rfl rfl h8 ?_
      refine w_gn (dd := 21) rfl rfl h8 ?_
      try dsimp only [setD, List.set]
      refine w_gn (dd := 21) rfl rfl h8 ?_
      refine w_gn (dd := 21) rfl rfl h8 ?_
      refine w_pk0 (boolP false) rfl h8 rfl ?_
      refine w_mv (boolP false) rfl ?_
      try dsimp only [setD, List.set]
      refine w_gn (dd := 28) rfl rfl rfl ?_
      refine w_gn (dd := 28) rfl rfl rfl ?_
      refine w_gn (dd := 28) rfl rfl rfl ?_
      refine w_gn (dd := 28) rfl rfl rfl ?_
      try dsimp only [setD, List.set]
      refine w_gn (dd := 28) rfl rfl rfl ?_
      refine w_gn (dd := 28) rfl rfl rfl ?_
      refine w_gn (dd := 28) rfl rfl rfl ?_
      refine w_pk0 (boolP false) rfl rfl rfl ?_
      try dsimp only [setD, List.set]
      refine w_as (boolP false) rfl ?_
      try dsimp only [setD, List.set]
      refine w_nil ?_
      refine un_n ?_
      refine w_ret ?_
      refine ⟨.inr rfl, [(boolP false)], [(boolP false)], rfl, rfl, ?_⟩
      refine congrArg boolP (?_ : false = (decide (a = b)))
      first | (exfalso; omega) | (first | rfl | (cases a; cases b; simp_all; done))
  · have h7_ := of_decide_eq_false h7
    refine w_gn (dd := 12) rfl rfl h7 ?_
    refine w_gn (dd := 12) rfl rfl h7 ?_
    refine w_gn (dd := 12) rfl rfl h7 ?_
    refine w_gn (dd := 12) rfl rfl h7 ?_
    try dsimp only [setD, List.set]
    refine w_gn (dd := 12) rfl rfl h7 ?_
    refine w_gn (dd := 12) rfl rfl h7 ?_
    refine w_gn (dd := 12) rfl rfl h7 ?_
    refine w_pk0 (boolP false) rfl h7 rfl ?_
    try dsimp only [setD, List.set]
    refine w_mv (boolP false) rfl ?_
    refine w_gn (dd := 21) rfl rfl rfl ?_
    refine w_gn (dd := 21) rfl rfl rfl ?_
    refine w_gn (dd := 21) rfl rfl rfl ?_
    try dsimp only [setD, List.set]
    refine w_gn (dd := 21) rfl rfl rfl ?_
    refine w_gn (dd := 21) rfl rfl rfl ?_
    refine w_pk0 (boolP false) rfl rfl rfl ?_
    refine w_mv (boolP false) rfl ?_
    try dsimp only [setD, List.set]
    refine w_gn (dd := 28) rfl rfl rfl ?_
    refine w_gn (dd := 28) rfl rfl rfl ?_
    refine w_gn (dd := 28) rfl rfl rfl ?_
    refine w_gn (dd := 28) rfl rfl rfl ?_
    try dsimp only [setD, List.set]
    refine w_gn (dd := 28) rfl rfl rfl ?_
    refine w_gn (dd := 28) rfl rfl rfl ?_
    refine w_gn (dd := 28) rfl rfl rfl ?_
    refine w_pk0 (boolP false) rfl rfl rfl ?_
    try dsimp only [setD, List.set]
    refine w_as (boolP false) rfl ?_
    try dsimp only [setD, List.set]
    refine w_nil ?_
    refine un_n ?_
    refine w_ret ?_
    refine ⟨.inr rfl, [(boolP false)], [(boolP false)], rfl, rfl, ?_⟩
    refine congrArg boolP (?_ : false = (decide (a = b)))
    first | (exfalso; omega) | (first | rfl | (cases a; cases b; simp_all; done))
theorem eq_next {α : Type} [Inhabited α] {a b : List α} {i : Int} (h : nth a i = nth b i) (h2 : ∀ j : Nat, (j : Int) < i → nth a j = nth b j) : ∀ j : Nat, (j : Int) < i + 1 → nth a j = nth b j := by
  intro j hj
  by_cases hji : (j : Int) = i
  · rw [hji]; exact h
  · exact h2 j (by omega)
theorem eq_all {α : Type} [Inhabited α] {a b : List α} (hl : (a.length : Int) = b.length) (h : ∀ j : Nat, (j : Int) < a.length → nth a j = nth b j) : a = b := by
  have hl : a.length = b.length := by omega
  refine List.ext_getElem hl fun i h1 h2 => ?_
  have := h i (by omega)
  rwa [nth_get h1, nth_get h2] at this
theorem run_slices_Equal_int_int_ (a : List Int) (b : List Int) (ha : (a.length : Int) ≤ 9223372036854775807) : Run C0 113 [(intsP a), (intsP b)] (boolP (decide (a = b))) := by
  refine run_fn (C := C0) (c := _) [(intsP a), (intsP b), undefP, undefP, undefP, undefP, undefP, undefP, undefP, undefP, undefP, undefP, undefP, undefP, undefP, undefP, undefP, undefP, undefP, undefP, undefP, undefP, undefP, undefP, undefP, undefP] Tryz.func113 rfl rfl rfl rfl ?_
  have ho := own_nil []
  refine w_seq ?_
  refine w_reg ?_
  refine w_as (boolP false) rfl ?_
  try dsimp only [setD, List.set]
  refine w_nil ?_
  refine un_n ?_
  refine w_seq ?_
  refine w_seq ?_
  refine w_reg ?_
  refine w_mv (intsP a) rfl ?_
  refine w_lenC _ _ _ (a.length : Int) (by rw [el_33]; rfl) rfl rfl ?_
  refine w_mv (intsP b) rfl ?_
  refine w_lenC _ _ _ (b.length : Int) (by rw [el_33]; rfl) rfl rfl ?_
  try dsimp only [setD, List.set]
  refine w_bin (boolP (!(decide ((a.length : Int) = (b.length : Int))))) rfl ?_
  try dsimp only [setD, List.set]
  refine w_nil ?_
  refine un_n ?_
  refine w_if (!(decide ((a.length : Int) = (b.length : Int)))) rfl (fun h1 => ?_) (fun h1 => ?_)
  · have h1' := nb1 h1
    have h1'_ := of_decide_eq_false h1'
    refine w_seq ?_
    refine w_reg ?_
    refine w_as (boolP false) rfl ?_
    try dsimp only [setD, List.set]
    refine w_nil ?_
    refine un_n ?_
    refine w_ret ?_
    refine un_r ?_
    refine ⟨.inr rfl, [(boolP false)], [(boolP false)], rfl, rfl, ?_⟩
    refine congrArg boolP (?_ : false = (decide (a = b)))
    first | (exfalso; omega) | (first | exact (decide_eq_true (eq_all (by omega) (fun j hj => hall j (by omega)))).symm | exact (decide_eq_false (by rintro rfl; first | omega | (simp_all; done))).symm)
  · have h1' := nb0 h1
    have h1'_ := of_decide_eq_true h1'
    refine w_skip ?_
    refine un_n ?_
    refine w_seq ?_
    refine w_seq ?_
    refine w_reg ?_
    refine w_mv (intsP a) rfl ?_
    refine w_lenC _ _ _ (a.length : Int) (by rw [el_33]; rfl) rfl rfl ?_
    refine w_mv (i64P 0) rfl ?_
    try dsimp only [setD, List.set]
    refine w_nil ?_
    refine un_n ?_
    refine w_block ?_
    refine w_loop (fun n g H => ∃ (i : Int) (j4 : PV) (j5 : PV) (j14 : PV) (j15 : PV) (j16 : PV) (j17 : PV) (j18 : PV) (j19 : PV) (j20 : PV) (j21 : PV) (j22 : PV) (j23 : PV) (j24 : PV) (j25 : PV), g = [(intsP a), (intsP b), undefP, undefP, j4, j5, (intsP a), (i64P (a.length : Int)), (intsP b), (i64P (b.length : Int)), (boolP (!(decide ((a.length : Int) = (b.length : Int))))), (intsP a), (i64P (a.length : Int)), (i64P i), j14, j15, j16, j17, j18, j19, j20, j21, j22, j23, j24, j25] ∧ Own H [] ∧ n = ((a.length : Int) - i).toNat ∧ (0 ≤ i) ∧ (i ≤ (a.length : Int)) ∧ (∀ j : Nat, (j : Int) < i → nth a j = nth b j)) ⟨0, _, _, _, _, _, _, _, _, _, _, _, _, _, _, rfl, (own_nil _), rfl, (by omega), (by omega), (fun j hj => by omega)⟩ ?_
    rintro m3 _ H ⟨i, j4, j5, j14, j15, j16, j17, j18, j19, j20, j21, j22, j23, j24, j25, rfl, ho2, em3, h0, hi, hall⟩
    refine w_seq ?_
    refine w_reg ?_
    refine w_bin (boolP (decide (i < (a.length : Int)))) rfl ?_
    try dsimp only [setD, List.set]
    refine w_nil ?_
    refine un_n ?_
    refine w_seq ?_
    refine w_if (decide (i < (a.length : Int))) rfl (fun h4 => ?_) (fun h4 => ?_)
    · have h4_ := of_decide_eq_true h4
      refine w_skip ?_
      refine un_n ?_
      refine w_seq ?_
      refine w_block ?_
      refine w_seq ?_
      refine w_reg ?_
      refine w_mv (i64P i) rfl ?_
      refine w_as (i64P i) rfl ?_
      try dsimp only [setD, List.set]
      refine w_nil ?_
      refine un_n ?_
      refine w_seq ?_
      refine w_reg ?_
      refine w_mv (intsP a) rfl ?_
      refine w_mv (i64P i) rfl ?_
      refine w_ia (.lptr 3 (atF intF 1 a i 0)) (ix_lst intF_len el_33 sz_3 (by omega) (by omega)) ?_
      refine w_ld (i64P (nth a i)) (ld_lptr (ld_at intF_len (by omega) (by omega) (by decide) (ld_one sz_3 ag_3 rfl))) ?_
      try dsimp only [setD, List.set]
      refine w_mv (intsP b) rfl ?_
      refine w_mv (i64P i) rfl ?_
      refine w_ia (.lptr 3 (atF intF 1 b i 0)) (ix_lst intF_len el_33 sz_3 (by omega) (by omega)) ?_
      refine w_ld (i64P (nth b i)) (ld_lptr (ld_at intF_len (by omega) (by omega) (by decide) (ld_one sz_3 ag_3 rfl))) ?_
      try dsimp only [setD, List.set]
      refine w_bin (boolP (!(decide ((nth a i) = (nth b i))))) rfl ?_
      try dsimp only [setD, List.set]
      refine w_nil ?_
      refine un_n ?_
      refine w_if (!(decide ((nth a i) = (nth b i)))) rfl (fun h5 => ?_) (fun h5 => ?_)
      · have h5' := nb1 h5
        have h5'_ := of_decide_eq_false h5'
        refine w_seq ?_
        refine w_reg ?_
        refine w_as (boolP false) rfl ?_
        try dsimp only [setD, List.set]
        refine w_nil ?_
        refine un_n ?_
        refine w_ret ?_
        refine un_r ?_
        refine un_r ?_
        refine un_r ?_
        refine ⟨.inr rfl, [(boolP false)], [(boolP false)], rfl, rfl, ?_⟩
        refine congrArg boolP (?_ : false = (decide (a = b)))
        first | (exfalso; omega) | (first | exact (decide_eq_true (eq_all (by omega) (fun j hj => hall j (by omega)))).symm | exact (decide_eq_false (by rintro rfl; first | omega | (simp_all; done))).symm)
      · have h5' := nb0 h5
        have h5'_ := of_decide_eq_true h5'
        refine w_skip ?_
        refine un_n ?_
        refine w_reg ?_
        refine w_bin (i64P (i + 1)) (b_add rfl rfl (by omega) (by omega)) ?_
        refine w_mv (i64P (i + 1)) rfl ?_
        try dsimp only [setD, List.set]
        refine w_nil ?_
        exact un_n ⟨_, (by omega), (i + 1), _, _, _, _, _, _, _, _, _, _, _, _, _, _, rfl, (own_nil _), rfl, (by omega), (by omega), (eq_next (by simp_all) hall)⟩
    · have h4_ := of_decide_eq_false h4
      refine w_exit ?_
      refine un_e ?_
      refine un_e ?_
      refine un_n ?_
      refine w_seq ?_
      refine w_reg ?_
      refine w_as (boolP true) rfl ?_
      try dsimp only [setD, List.set]
      refine w_nil ?_
      refine un_n ?_
      refine w_ret ?_
      refine ⟨.inr rfl, [(boolP true)], [(boolP true)], rfl, rfl, ?_⟩
      refine congrArg boolP (?_ : true = (decide (a = b)))
      first | (exfalso; omega) | (first | exact (decide_eq_true (eq_all (by omega) (fun j hj => hall j (by omega)))).symm | exact (decide_eq_false (by rintro rfl; first | omega | (simp_all; done))).symm)
theorem run_cordwoodref02_Ints (a : List Int) (b : List Int) (ha : (a.length : Int) ≤ 9223372036854775807) : Run C0 125 [(intsP a), (intsP b)] (boolP (decide (a = b))) := by
  refine run_fn (C := C0) (c := _) [(intsP a), (intsP b), undefP, undefP, undefP, undefP, undefP, undefP, undefP, undefP, undefP, undefP, undefP, undefP, undefP, undefP, undefP, undefP, undefP, undefP, undefP, undefP, undefP, undefP, undefP, undefP] Tryz.func125 rfl rfl rfl rfl ?_
  have ho := own_nil []
  refine w_seq ?_
  refine w_reg ?_
  refine w_as (boolP false) rfl ?_
  try dsimp only [setD, List.set]
  refine w_nil ?_
  refine un_n ?_
  refine w_seq ?_
  refine w_seq ?_
  refine w_reg ?_
  refine w_mv (intsP a) rfl ?_
  refine w_lenC _ _ _ (a.length : Int) (by rw [el_33]; rfl) rfl rfl ?_
  refine w_mv (intsP b) rfl ?_
  refine w_lenC _ _ _ (b.length : Int) (by rw [el_33]; rfl) rfl rfl ?_
  try dsimp only [setD, List.set]
  refine w_bin (boolP (!(decide ((a.length : Int) = (b.length : Int))))) rfl ?_
  try dsimp only [setD, List.set]
  refine w_nil ?_
  refine un_n ?_
  refine w_if (!(decide ((a.length : Int) = (b.length : Int)))) rfl (fun h1 => ?_) (fun h1 => ?_)
  · have h1' := nb1 h1
    have h1'_ := of_decide_eq_false h1'
    refine w_seq ?_
    refine w_reg ?_
    refine w_as (boolP false) rfl ?_
    try dsimp only [setD, List.set]
    refine w_nil ?_
    refine un_n ?_
    refine w_ret ?_
    refine un_r ?_
    refine ⟨.inr rfl, [(boolP false)], [(boolP false)], rfl, rfl, ?_⟩
    refine congrArg boolP (?_ : false = (decide (a = b)))
    first | (exfalso; omega) | (first | exact (decide_eq_true (eq_all (by omega) (fun j hj => hall j (by omega)))).symm | exact (decide_eq_false (by rintro rfl; first | omega | (simp_all; done))).symm)
  · have h1' := nb0 h1
    have h1'_ := of_decide_eq_true h1'
    refine w_skip ?_
    refine un_n ?_
    refine w_seq ?_
    refine w_seq ?_
    refine w_reg ?_
    refine w_as (i64P 0) rfl ?_
    try dsimp only [setD, List.set]
    refine w_nil ?_
    refine un_n ?_
    refine w_block ?_
    refine w_loop (fun n g H => ∃ (i : Int) (j4 : PV) (j11 : PV) (j12 : PV) (j13 : PV) (j14 : PV) (j15 : PV) (j16 : PV) (j17 : PV) (j18 : PV) (j19 : PV) (j20 : PV) (j21 : PV) (j22 : PV) (j23 : PV) (j24 : PV) (j25 : PV), g = [(intsP a), (intsP b), undefP, undefP, j4, (i64P i), (intsP a), (i64P (a.length : Int)), (intsP b), (i64P (b.length : Int)), (boolP (!(decide ((a.length : Int) = (b.length : Int))))), j11, j12, j13, j14, j15, j16, j17, j18, j19, j20, j21, j22, j23, j24, j25] ∧ Own H [] ∧ n = ((a.length : Int) - i).toNat ∧ (0 ≤ i) ∧ (i ≤ (a.length : Int)) ∧ (∀ j : Nat, (j : Int) < i → nth a j = nth b j)) ⟨0, _, _, _, _, _, _, _, _, _, _, _, _, _, _, _, _, rfl, (own_nil _), rfl, (by omega), (by omega), (fun j hj => by omega)⟩ ?_
    rintro m3 _ H ⟨i, j4, j11, j12, j13, j14, j15, j16, j17, j18, j19, j20, j21, j22, j23, j24, j25, rfl, ho2, em3, h0, hi, hall⟩
    refine w_seq ?_
    refine w_seq ?_
    refine w_reg ?_
    refine w_mv (i64P i) rfl ?_
    refine w_mv (intsP a) rfl ?_
    refine w_lenC _ _ _ (a.length : Int) (by rw [el_33]; rfl) rfl rfl ?_
    refine w_bin (boolP (decide (i < (a.length : Int)))) rfl ?_
    try dsimp only [setD, List.set]
    refine w_nil ?_
    refine un_n ?_
    refine w_if (decide (i < (a.length : Int))) rfl (fun h4 => ?_) (fun h4 => ?_)
    · have h4_ := of_decide_eq_true h4
      refine w_skip ?_
      refine un_n ?_
      refine w_seq ?_
      refine w_block ?_
      refine w_seq ?_
      refine w_reg ?_
      refine w_mv (intsP a) rfl ?_
      refine w_mv (i64P i) rfl ?_
      refine w_ia (.lptr 3 (atF intF 1 a i 0)) (ix_lst intF_len el_33 sz_3 (by omega) (by omega)) ?_
      refine w_ld (i64P (nth a i)) (ld_lptr (ld_at intF_len (by omega) (by omega) (by decide) (ld_one sz_3 ag_3 rfl))) ?_
      try dsimp only [setD, List.set]
      refine w_mv (intsP b) rfl ?_
      refine w_mv (i64P i) rfl ?_
      refine w_ia (.lptr 3 (atF intF 1 b i 0)) (ix_lst intF_len el_33 sz_3 (by omega) (by omega)) ?_
      refine w_ld (i64P (nth b i)) (ld_lptr (ld_at intF_len (by omega) (by omega) (by decide) (ld_one sz_3 ag_3 rfl))) ?_
      try dsimp only [setD, List.set]
      refine w_bin (boolP (!(decide ((nth a i) = (nth b i))))) rfl ?_
      try dsimp only [setD, List.set]
      refine w_nil ?_
      refine un_n ?_
      refine w_if (!(decide ((nth a i) = (nth b i)))) rfl (fun h5 => ?_) (fun h5 => ?_)
      · have h5' := nb1 h5
        have h5'_ := of_decide_eq_false h5'
        refine w_seq ?_
        refine w_reg ?_
        refine w_as (boolP false) rfl ?_
        try dsimp only [setD, List.set]
        refine w_nil ?_
        refine un_n ?_
        refine w_ret ?_
        refine un_r ?_
        refine un_r ?_
        refine un_r ?_
        refine ⟨.inr rfl, [(boolP false)], [(boolP false)], rfl, rfl, ?_⟩
        refine congrArg boolP (?_ : false = (decide (a = b)))
        first | (exfalso; omega) | (first | exact (decide_eq_true (eq_all (by omega) (fun j hj => hall j (by omega)))).symm | exact (decide_eq_false (by rintro rfl; first | omega | (simp_all; done))).symm)
      · have h5' := nb0 h5
        have h5'_ := of_decide_eq_true h5'
        refine w_skip ?_
        refine un_n ?_
        refine w_reg ?_
        refine w_mv (i64P i) rfl ?_
        refine w_bin (i64P (i + 1)) (b_add rfl rfl (by omega) (by omega)) ?_
        refine w_as (i64P (i + 1)) rfl ?_
        try dsimp only [setD, List.set]
        refine w_nil ?_
        exact un_n ⟨_, (by omega), (i + 1), _, _, _, _, _, _, _, _, _, _, _, _, _, _, _, _, rfl, (own_nil _), rfl, (by omega), (by omega), (eq_next (by simp_all) hall)⟩
    · have h4_ := of_decide_eq_false h4
      refine w_exit ?_
      refine un_e ?_
      refine un_e ?_
      refine un_n ?_
      refine w_seq ?_
      refine w_reg ?_
      refine w_as (boolP true) rfl ?_
      try dsimp only [setD, List.set]
      refine w_nil ?_
      refine un_n ?_
      refine w_ret ?_
      refine ⟨.inr rfl, [(boolP true)], [(boolP true)], rfl, rfl, ?_⟩
      refine congrArg boolP (?_ : true = (decide (a = b)))
      first | (exfalso; omega) | (first | exact (decide_eq_true (eq_all (by omega) (fun j hj => hall j (by omega)))).symm | exact (decide_eq_false (by rintro rfl; first | omega | (simp_all; done))).symm)
theorem run_leaf_source (n : Int) : Run C0 118 [(i64P n)] (boolP (sourceOk n)) := by
  refine run_fn (C := C0) (c := _) [(i64P n), undefP, undefP, undefP, undefP, undefP, undefP, undefP, undefP] Tryz.func118 rfl rfl rfl rfl ?_
  have ho := own_nil []
  refine w_seq ?_
  refine w_reg ?_
  refine w_as (boolP false) rfl ?_
  try dsimp only [setD, List.set]
  refine w_nil ?_
  refine un_n ?_
  refine w_seq ?_
  refine w_reg ?_
  refine w_mv (i64P n) rfl ?_
  refine w_bin (boolP (decide (n ≥ 1))) rfl ?_
  refine w_mv (boolP (decide (n ≥ 1))) rfl ?_
  rcases Bool.eq_false_or_eq_true (decide (n ≥ 1)) with h1 | h1
  · have h1_ := of_decide_eq_true h1
    refine w_gd (dd := 5) rfl rfl h1 ?_
    refine w_mv (i64P n) rfl ?_
    try dsimp only [setD, List.set]
    refine w_gd (dd := 5) rfl rfl h1 ?_
    refine w_bin (boolP (decide (n ≤ 3))) rfl ?_
    refine w_pk1 (boolP (decide (n ≤ 3))) rfl h1 rfl ?_
    refine w_as (boolP (decide (n ≤ 3))) rfl ?_
    try dsimp only [setD, List.set]
    refine w_nil ?_
    refine un_n ?_
    refine w_ret ?_
    refine ⟨.inr rfl, [(boolP (decide (n ≤ 3)))], [(boolP (decide (n ≤ 3)))], rfl, rfl, ?_⟩
    refine congrArg boolP (?_ : (decide (n ≤ 3)) = (sourceOk n))
    first | (exfalso; omega) | (first | rfl | (simp_all [sourceOk]; done) | (simp_all [sourceOk]; omega))
  · have h1_ := of_decide_eq_false h1
    refine w_gn (dd := 5) rfl rfl h1 ?_
    try dsimp only [setD, List.set]
    refine w_gn (dd := 5) rfl rfl h1 ?_
    refine w_pk0 (boolP false) rfl h1 rfl ?_
    refine w_as (boolP false) rfl ?_
    try dsimp only [setD, List.set]
    refine w_nil ?_
    refine un_n ?_
    refine w_ret ?_
    refine ⟨.inr rfl, [(boolP false)], [(boolP false)], rfl, rfl, ?_⟩
    refine congrArg boolP (?_ : false = (sourceOk n))
    first | (exfalso; omega) | (first | rfl | (simp_all [sourceOk]; done) | (simp_all [sourceOk]; omega))
theorem run_leaf_Check_1 (b : List UInt8) : Run C0 116 [(octP b)] (boolP (long b)) := by
  refine run_fn (C := C0) (c := _) [(octP b), undefP, undefP, undefP, undefP, undefP] Tryz.func116 rfl rfl rfl rfl ?_
  have ho := own_nil []
  refine w_seq ?_
  refine w_reg ?_
  refine w_as (boolP false) rfl ?_
  try dsimp only [setD, List.set]
  refine w_nil ?_
  refine un_n ?_
  refine w_seq ?_
  refine w_reg ?_
  refine w_mv (octP b) rfl ?_
  refine w_lenC _ _ _ (b.length : Int) (by rw [el_23]; rfl) rfl rfl ?_
  refine w_bin (boolP (decide ((b.length : Int) > 200))) rfl ?_
  refine w_as (boolP (decide ((b.length : Int) > 200))) rfl ?_
  try dsimp only [setD, List.set]
  refine w_nil ?_
  refine un_n ?_
  refine w_ret ?_
  refine ⟨.inr rfl, [(boolP (decide ((b.length : Int) > 200)))], [(boolP (decide ((b.length : Int) > 200)))], rfl, rfl, ?_⟩
  refine congrArg boolP (?_ : (decide ((b.length : Int) > 200)) = (long b))
  first | (exfalso; omega) | (first | rfl | (simp_all [long]; done) | (simp_all [long]; omega))
end Go.Proofs.YtkkdkhacligaoaaGreatDoor.law
