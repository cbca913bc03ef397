/- The law EditBack: its card. It holds for every input: the law's call comes to true, as the pure interpreter runs it (run_EditBack), and the interpreter does what the model does. -/
import Derived.Test.YtkkdkhacligaoaaGreatDoorCards
import Derived.Test.YtkkdkhacligaoaaGreatDoorTie
import Derived.Test.YtkkdkhacligaoaaGreatDoorOpen
import Derived.Test.YtkkdkhacligaoaaGreatDoorW14
import Derived.WalkKit
import Derived.ProofKit
import Derived.OpenShut
import Derived.Deep.DeepHandedRow
import Derived.Lib.LaidTab
import Derived.KernelRfl
import Derived.Carry
import Derived.Below
set_option linter.unusedVariables false
set_option linter.unusedSimpArgs false
namespace Go.Proofs.YtkkdkhacligaoaaGreatDoor.law.editBack
open Go.ChangeShapes Go.WideShapes Go.ChangeAt Go.RowKit
theorem own : ownKnob Tryz.prog.godebug = none := by kernel_rfl
theorem laidOut : laidOutB Tryz.prog = true := by kernel_rfl
theorem g32 : Tryz.prog.globalNamed "math/bits.deBruijn32tab" = some 0 := by kernel_rfl
theorem g64 : Tryz.prog.globalNamed "math/bits.deBruijn64tab" = some 1 := by kernel_rfl
theorem gNum : Tryz.prog.globalNamed "cordwood/block.numbers" = some 2 := by kernel_rfl
theorem y32 : (Tryz.prog.globals[0]?).map (·.type) = some 166 := by kernel_rfl
theorem y64 : (Tryz.prog.globals[1]?).map (·.type) = some 144 := by kernel_rfl
theorem yNum : (Tryz.prog.globals[2]?).map (·.type) = some 161 := by kernel_rfl
theorem laid_tail {P : Program} {x : String × DataW Unit} {rest : List (String × DataW Unit)} {W : World} (h : laidMet P (x :: rest) W) : laidMet P rest W := by
  obtain ⟨ps, ⟨g', t', cs, fuel, p, q, hg', ht', hvar, hd, h1, h2⟩, h3, h4⟩ := h
  subst h2
  exact ⟨q, h1, (List.nodup_append.1 h3).2.1, fun b off hm => h4 b off (List.mem_append.2 (.inr hm))⟩
set_option maxRecDepth 100000 in
/-- The laid tables. -/
theorem tabs {W : World} (h : laidMetH Tryz.prog Rows.editBackRow.laid W) : Lib.TabIs Tryz.prog W "math/bits.deBruijn32tab" .u8 t32L ∧ Lib.TabIs Tryz.prog W "math/bits.deBruijn64tab" .u8 t64L ∧ Lib.TabIs Tryz.prog W "cordwood/block.numbers" .u32 numL := by
  have h1 : laidMet Tryz.prog (("math/bits.deBruijn32tab", Lib.tabData .u8 t32L) :: ("math/bits.deBruijn64tab", Lib.tabData .u8 t64L) :: [("cordwood/block.numbers", Lib.tabData .u32 numL)]) W := h
  exact ⟨Lib.tabIs_of_head g32 y32 Tryz.underlying166 Tryz.underlying5 (by kernel_rfl) (by kernel_rfl) h1,
    Lib.tabIs_of_head g64 y64 Tryz.underlying144 Tryz.underlying5 (by kernel_rfl) (by kernel_rfl) (laid_tail h1),
    Lib.tabIs_of_head gNum yNum Tryz.underlying161 Tryz.underlying120 (by kernel_rfl) (by kernel_rfl) (laid_tail (laid_tail h1))⟩
theorem globs_rel {W : World} (h : laidMetH Tryz.prog Rows.editBackRow.laid W) (n e : Nat) (cs : List PI.PV) (hn : globs n = some (e, cs)) : PI.Rel W (PI.inHeap W) PI.mu0 (.lptr e cs) (.pointer (some ⟨n, 0, none⟩)) := by
  obtain ⟨h1, h2, h3⟩ := tabs h
  unfold globs at hn
  split at hn <;> cases hn
  · exact PI.glob_rel h1 g32 (by decide) _
  · exact PI.glob_rel h2 g64 (by decide) _
  · exact PI.glob_rel h3 gNum (by decide) _
/-- A world for the witness. -/
noncomputable def tabCells (zs : List Int) (k : IntKind) : Array Value := (zs.map fun z => Value.int k z).toArray
noncomputable def laidWorld (os : Os) : World :=
  let w := World.holding Tryz.prog os ⟨#[], #[], []⟩
  { w with heap := ((w.heap.modify 0 fun
      | .cells _ t frozen => .cells (tabCells t32L .u8) t frozen
      | o => o).modify 1 fun
      | .cells _ t frozen => .cells (tabCells t64L .u8) t frozen
      | o => o).modify 2 fun
      | .cells _ t frozen => .cells (tabCells numL .u32) t frozen
      | o => o }
set_option maxRecDepth 100000 in
theorem laid_met (os : Os) : laidMet Tryz.prog Rows.editBackRow.laid ((laidWorld os).forCall (fun _ _ => 0) ⟨#[], #[.slice none 0 0, .agg #[.slice none 0 0, .slice none 0 0, .int .i64 0, .slice none 0 0]], []⟩).memory :=
  laidMet_of_run' 8 (by kernel_rfl) (by kernel_rfl)
set_option maxRecDepth 100000 in
theorem reads (os : Os) {H : Type} (enc : TypeId × Value → H) : ∃ places, DataW.whole enc Tryz.prog ((laidWorld os).forCall (fun _ _ => 0) ⟨#[], #[.slice none 0 0, .agg #[.slice none 0 0, .slice none 0 0, .int .i64 0, .slice none 0 0]], []⟩).memory Tryz.f3.params.toList Rows.editBackSpec.vars false (#[.slice none 0 0, .agg #[.slice none 0 0, .slice none 0 0, .int .i64 0, .slice none 0 0]] : Array Value).toList 8 = some ([.nil, .agg [.nil, .nil, .lit (.int .i64 0), .nil]], [], places) :=
  ⟨[], by kernel_rfl⟩
variable (C : PI.Cfg) (hP : C.P = Tryz.prog) (hG : C.glob = globs) (hok : PI.Ok C)
include hP hG hok
set_option maxRecDepth 100000 in
theorem contract (hrun : ∀ (x0 : List Node) (x1 : Leaf), WfT x0 → PI.Run C 3 [(nodesP x0), (.agg (leafCs x1))] (PI.boolP true)) (H : Type) (enc : TypeId × Value → H) (W : World) (base : Nat) (args : Array Value) (ds gs : List (DataW H)) (before : List MemPlace)
    (hval : ∀ (j : Nat) t v, Tryz.f3.params[j]? = some t → args[j]? = some v → Value.okWide Tryz.prog W .any base t v)
    (hW : DataW.Whole enc Tryz.prog Tryz.f3.params.toList Rows.editBackSpec.vars false W args.toList ds gs before) (hL : laidMetH Tryz.prog Rows.editBackRow.laid W) :
    Calls Tryz.prog 3 args W fun e W' => ∃ v, e = .returned v ∧ Rows.editBackSpec.post enc Tryz.prog Tryz.f3 false true false false W args v W' := by
  have hW' := hW
  obtain ⟨p, q, hA0, hV, rfl, hfz, hnd⟩ := hW
  have hA : DataW.TrodAll enc Tryz.prog W 0 (fun _ => true) true Tryz.f3.params.toList args.toList ds p := hA0
  rw [Tryz.params3] at hA hval
  obtain ⟨v0, vs0, d0, ds0, p0, q0, hargs, rfl, rfl, h0, r0⟩ := trodAll_cons hA
  obtain ⟨v1, vs1, d1, ds1, p1, q1, rfl, rfl, rfl, h1, r1⟩ := trodAll_cons r0
  obtain ⟨rfl, rfl, rfl⟩ := trodAll_nil r1
  obtain rfl : args = #[v0, v1] := by cases args; simp_all
  obtain ⟨rfl, rfl⟩ := trodVars_none hV
  have k0 := h0
  have lt0 : ∀ x ∈ p0, x.block < W.heap.size := by obtain ⟨m, hm⟩ := k0; exact DataW.trod_lt m _ _ _ hm
  obtain ⟨b0, len0, cap0, rfl⟩ := okWide_slice Tryz.underlying22 (hval 0 22 v0 rfl rfl)
  obtain ⟨a0, e0, g0⟩ : ∃ a, PI.Rel W (PI.inHeap W) PI.mu0 (nodesP a) (.slice b0 len0 cap0) ∧ WfT a := by
    obtain ⟨fuel, hf⟩ := h0
    obtain ⟨a, hr, hg⟩ := o_nodes hf
    exact ⟨a, hr.2 0 _ _ rfl rfl, hg⟩
  have k1 := h1
  have lt1 : ∀ x ∈ p1, x.block < W.heap.size := by obtain ⟨m, hm⟩ := k1; exact DataW.trod_lt m _ _ _ hm
  obtain ⟨us1, rfl, _⟩ := okWide_struct Tryz.underlying25 (hval 1 25 v1 rfl rfl)
  obtain ⟨a1, e1, g1⟩ : ∃ a, PI.Rel W (PI.inHeap W) PI.mu0 (.agg (leafCs a)) (.agg us1) ∧ True := by
    obtain ⟨fuel, hf⟩ := h1
    obtain ⟨a, hr, hg⟩ := o_leaf hf
    exact ⟨a, .agg (by have := hr.1; simpa [Value.cells] using this) (fun p hp => List.all_eq_true.1 (isC_leaf a) p hp) (fun i p u hp hu => hr.2 i p u hp (by simpa [Value.cells] using hu)), hg⟩
  clear hA0
  have walk := PI.run_law (W := W) (args := #[.slice b0 len0 cap0, .agg us1]) hok (hrun a0 a1 g0) (by rw [hG]; exact globs_rel hL) (.cons e0 (.cons e1 .nil))
  rw [hP] at walk
  refine walk.mono fun e W' ⟨he, bel⟩ => ?_
  subst he
  exact ⟨_, rfl, _, _, _, [], _, [], hW', trodAll_mk1 (shut_bool Tryz.underlying4 _), (trodAll_cons_mk (Below.trod laidOut (by kernel_rfl) (of_decide_eq_true (by kernel_rfl)) k0 bel lt0) (trodAll_cons_mk (Below.trod laidOut (by kernel_rfl) (of_decide_eq_true (by kernel_rfl)) k1 bel lt1) trodAll_mk0)), rfl, bel.frame _, fun h => by cases h⟩
set_option maxRecDepth 100000 in
theorem lifted (hrun : ∀ (x0 : List Node) (x1 : Leaf), WfT x0 → PI.Run C 3 [(nodesP x0), (.agg (leafCs x1))] (PI.boolP true)) (os : Os) (started : os.Started) (H : Type) (enc : TypeId × Value → H) (F : Stop.Interp) :
    ReturnsInHanded {} Tryz.checked os 3 .any ((OpenSpec.ofChange Rows.editBackSpec).preRow enc Tryz.prog Tryz.f3 Rows.editBackRow.domain false Rows.editBackRow.laid) (((OpenSpec.ofChange Rows.editBackSpec).at F).post enc Tryz.prog Tryz.f3 false true false false) := by
  obtain ⟨places, hx⟩ := reads os enc
  refine returnsInHanded_of_row (C := Tryz.checked) (s := OpenSpec.ofChange Rows.editBackSpec) own started (by kernel_rfl) Tryz.func3
    (witness_row_at (enc := enc) (C := Tryz.checked) false (laidWorld os) #[.slice none 0 0, .agg #[.slice none 0 0, .slice none 0 0, .int .i64 0, .slice none 0 0]] rfl (by kernel_rfl) (by kernel_rfl) (by kernel_rfl)
      (OpenSpec.preRow_of_cond 8 hx (by kernel_rfl) (fun k hk => by cases hk) (by kernel_rfl) (laid_met os))) ?_
  intro W base args ds gs before hval hW _ _ _ hL _ _
  exact contract C hP hG hok hrun H enc W base args ds gs before hval hW hL
theorem said (hrun : ∀ (x0 : List Node) (x1 : Leaf), WfT x0 → PI.Run C 3 [(nodesP x0), (.agg (leafCs x1))] (PI.boolP true)) : Rows.EditBackSaid :=
  OpenClaim.holds_of_cond 3 Tryz.f3 rfl rfl rfl rfl rfl rfl rfl ⟨rfl, rfl, rfl, rfl, rfl⟩ rfl rfl rfl rfl rfl (by kernel_rfl) Tryz.func3 (by kernel_rfl)
    (of_decide_eq_true (by kernel_rfl)) (by unfold Func.isWrapper; first | (rw [if_pos (by decide +kernel)]; kernel_rfl) | (rw [if_neg (by decide +kernel)]; exact ⟨rfl, rfl⟩))
    (fun os started H enc _ F => by rw [OpenClaim.pre_eq_preRow]; exact lifted C hP hG hok hrun os started H enc F)
omit hP hG hok in
/-- No parameter wants a stand-in; the program's own looks are off. -/
theorem plain (f : FuncId) (fn : Func) (hf : Tryz.pinned.checked.prog.funcNamed "cordwood/cordwoodlaw14.EditBack" = some f) (hfn : Tryz.pinned.checked.prog.funcs[f]? = some fn) :
    false = Tryz.pinned.checked.prog.looks [] ∧ ∀ (j : Nat) t, fn.params[j]? = some t → Tryz.pinned.checked.prog.wantsStandIn t = false := by
  obtain rfl : f = 3 := Option.some.inj ((show Tryz.prog.funcNamed "cordwood/cordwoodlaw14.EditBack" = some 3 by kernel_rfl).symm.trans hf) |>.symm
  obtain rfl : fn = Tryz.f3 := (Option.some.inj (Tryz.func3.symm.trans hfn)).symm
  refine ⟨by kernel_rfl, fun j t ht => ?_⟩
  rw [Tryz.params3] at ht
  have hm := Array.mem_of_getElem? ht
  have hall : ∀ t ∈ [22, 25], Tryz.prog.wantsStandIn t = false := by
    intro t ht
    simp only [List.mem_cons, List.not_mem_nil, or_false] at ht
    rcases ht with rfl | rfl
    · kernel_rfl
    · kernel_rfl
  exact hall t (by simpa using hm)
/-- The card. -/
theorem card (hrun : ∀ (x0 : List Node) (x1 : Leaf), WfT x0 → PI.Run C 3 [(nodesP x0), (.agg (leafCs x1))] (PI.boolP true)) : Rows.EditBackCardSaid :=
  Claim7.holds_tied_plain_at .later [] _ _ _ _ (said C hP hG hok hrun) (fun _ h => by cases h) (by kernel_rfl) (fun _ h => by cases h) editBack_row_tie rfl ⟨rfl, rfl⟩ (by kernel_rfl) rfl plain (by kernel_rfl)
end Go.Proofs.YtkkdkhacligaoaaGreatDoor.law.editBack
namespace Go.Proofs.YtkkdkhacligaoaaGreatDoor
set_option maxRecDepth 100000 in
theorem editBack_holds : Rows.EditBackCardSaid := law.editBack.card law.C0 rfl rfl law.ok0 (fun t l ht => law.run_EditBack t l ht)
#print axioms editBack_holds
end Go.Proofs.YtkkdkhacligaoaaGreatDoor
