/- Clone of what is empty, nil or not, hands back an empty slice of its own. -/
import Derived.Test.YtkkdkhacligaoaaGreatDoorProg
import Derived.Test.YtkkdkhacligaoaaGreatDoorMd
import Derived.Shelf.RegionOpenPlain
import Derived.WalkKit
import Derived.Deep.LoopGhost
import Derived.Lib.Walk
import Derived.Lib.SliceRun
import Derived.KernelRfl
import Derived.Laws.AppendOwn
namespace Go.Proofs.YtkkdkhacligaoaaGreatDoor.law
open Go.RowKit Go.Lib Go.Proofs

theorem info_nodes : ∃ i0 z, Tryz.prog.info? 37 = some i0 ∧ i0.zero = some z ∧ i0.size = 8 ∧ i0.bytes = 160 ∧ z.cells.size = 8 := by
  have h : ((Tryz.prog.info? 37).bind fun i => (i.zero).map fun z => (i.size, i.bytes, z.cells.size)) = some (8, 160, 8) := by kernel_rfl
  obtain ⟨i0, h1, h2⟩ := Option.bind_eq_some_iff.1 h
  obtain ⟨z, h3, h4⟩ := Option.map_eq_some_iff.1 h2
  injection h4 with h5 h6
  injection h6 with h6 h7
  exact ⟨i0, z, h1, h3, h5, h6, h7⟩
set_option maxHeartbeats 2000000 in
set_option maxRecDepth 100000 in
theorem clone_nodes_empty (A : Option Addr) (c : Nat) (w : World) :
    Calls Tryz.prog 80 #[.slice A 0 c] w fun e w' => ∃ v', e = .returned v' ∧ w'.ownsRow w.heap.size 37 8 v' 0 [] ∧ Below w.heap.size w w' := by
  obtain ⟨i0, z, hi, hz0, hz1, hz2, hzs⟩ := info_nodes
  have q22 : ∀ (w : World) (a : Option Addr) (n c n' c' : Nat), (binOp .eql 22 (.slice a n c) (.slice none n' c')).run Tryz.prog w = .ok (.bool a.isNone) w := fun w a n c n' c' => Lib.run_eql_slice_nil w _ _ a n c n' c' Tryz.underlying22
  have u22 : ∀ w, Sem.run Tryz.prog (underlying 22) w = .ok (TypeDesc.slice 37) w := run_underlying Tryz.underlying22
  cases A with
  | none =>
    go_enter Tryz.func80, Tryz.ntmps80
    go_wp2
    go_ret
    exact ⟨_, rfl, ⟨rfl, .inl ⟨rfl, rfl⟩⟩, Below.refl _ _⟩
  | some a =>
    go_enter Tryz.func80, Tryz.ntmps80
    go_wp2_with (at_builtin; refine wpList_append_own _ rfl _ _ 22 rfl w.heap.size 37 i0 z 8 160 Tryz.underlying22 hi hz0 hz1 hz2 hzs (by decide) _ _ _ rfl (World.ownsRow_made w #[] 0 (Nat.le_refl _) (Nat.zero_le _) (by simp)) a 0 c [] rfl rfl (by intro j u hj; simp at hj) (by intro u hu; cases hu) (by decide) (by decide) (by simp) ?_)
    intro v' w1 hown hgrow hnil
    go_wp2
    go_ret
    refine ⟨v', rfl, by simpa using hown, ?_⟩
    exact ((Below.refl _ w).alloc (Nat.le_refl _) _).grown hgrow (by simp) (by intro k hk; simp [Value.ownBlock] at hk; omega)

theorem info_ints : ∃ i0 z, Tryz.prog.info? 3 = some i0 ∧ i0.zero = some z ∧ i0.size = 1 ∧ i0.bytes = 8 ∧ z.cells.size = 1 := by
  have h : ((Tryz.prog.info? 3).bind fun i => (i.zero).map fun z => (i.size, i.bytes, z.cells.size)) = some (1, 8, 1) := by kernel_rfl
  obtain ⟨i0, h1, h2⟩ := Option.bind_eq_some_iff.1 h
  obtain ⟨z, h3, h4⟩ := Option.map_eq_some_iff.1 h2
  injection h4 with h5 h6
  injection h6 with h6 h7
  exact ⟨i0, z, h1, h3, h5, h6, h7⟩
set_option maxHeartbeats 2000000 in
set_option maxRecDepth 100000 in
theorem clone_ints_empty (A : Option Addr) (c : Nat) (w : World) :
    Calls Tryz.prog 83 #[.slice A 0 c] w fun e w' => ∃ v', e = .returned v' ∧ w'.ownsRow w.heap.size 3 1 v' 0 [] ∧ Below w.heap.size w w' := by
  obtain ⟨i0, z, hi, hz0, hz1, hz2, hzs⟩ := info_ints
  have q22 : ∀ (w : World) (a : Option Addr) (n c n' c' : Nat), (binOp .eql 33 (.slice a n c) (.slice none n' c')).run Tryz.prog w = .ok (.bool a.isNone) w := fun w a n c n' c' => Lib.run_eql_slice_nil w _ _ a n c n' c' Tryz.underlying33
  have u22 : ∀ w, Sem.run Tryz.prog (underlying 33) w = .ok (TypeDesc.slice 3) w := run_underlying Tryz.underlying33
  cases A with
  | none =>
    go_enter Tryz.func83, Tryz.ntmps83
    go_wp2
    go_ret
    exact ⟨_, rfl, ⟨rfl, .inl ⟨rfl, rfl⟩⟩, Below.refl _ _⟩
  | some a =>
    go_enter Tryz.func83, Tryz.ntmps83
    go_wp2_with (at_builtin; refine wpList_append_own _ rfl _ _ 33 rfl w.heap.size 3 i0 z 1 8 Tryz.underlying33 hi hz0 hz1 hz2 hzs (by decide) _ _ _ rfl (World.ownsRow_made w #[] 0 (Nat.le_refl _) (Nat.zero_le _) (by simp)) a 0 c [] rfl rfl (by intro j u hj; simp at hj) (by intro u hu; cases hu) (by decide) (by decide) (by simp) ?_)
    intro v' w1 hown hgrow hnil
    go_wp2
    go_ret
    refine ⟨v', rfl, by simpa using hown, ?_⟩
    exact ((Below.refl _ w).alloc (Nat.le_refl _) _).grown hgrow (by simp) (by intro k hk; simp [Value.ownBlock] at hk; omega)

theorem info_oct : ∃ i0 z, Tryz.prog.info? 5 = some i0 ∧ i0.zero = some z ∧ i0.size = 1 ∧ i0.bytes = 1 ∧ z.cells.size = 1 := by
  have h : ((Tryz.prog.info? 5).bind fun i => (i.zero).map fun z => (i.size, i.bytes, z.cells.size)) = some (1, 1, 1) := by kernel_rfl
  obtain ⟨i0, h1, h2⟩ := Option.bind_eq_some_iff.1 h
  obtain ⟨z, h3, h4⟩ := Option.map_eq_some_iff.1 h2
  injection h4 with h5 h6
  injection h6 with h6 h7
  exact ⟨i0, z, h1, h3, h5, h6, h7⟩
set_option maxHeartbeats 2000000 in
set_option maxRecDepth 100000 in
theorem clone_oct_empty (A : Option Addr) (c : Nat) (w : World) :
    Calls Tryz.prog 182 #[.slice A 0 c] w fun e w' => ∃ v', e = .returned v' ∧ w'.ownsRow w.heap.size 5 1 v' 0 [] ∧ Below w.heap.size w w' := by
  obtain ⟨i0, z, hi, hz0, hz1, hz2, hzs⟩ := info_oct
  have q22 : ∀ (w : World) (a : Option Addr) (n c n' c' : Nat), (binOp .eql 23 (.slice a n c) (.slice none n' c')).run Tryz.prog w = .ok (.bool a.isNone) w := fun w a n c n' c' => Lib.run_eql_slice_nil w _ _ a n c n' c' Tryz.underlying23
  have u22 : ∀ w, Sem.run Tryz.prog (underlying 23) w = .ok (TypeDesc.slice 5) w := run_underlying Tryz.underlying23
  cases A with
  | none =>
    go_enter Tryz.func182, Tryz.ntmps182
    go_wp2
    go_ret
    exact ⟨_, rfl, ⟨rfl, .inl ⟨rfl, rfl⟩⟩, Below.refl _ _⟩
  | some a =>
    go_enter Tryz.func182, Tryz.ntmps182
    go_wp2_with (at_builtin; refine wpList_append_own _ rfl _ _ 23 rfl w.heap.size 5 i0 z 1 1 Tryz.underlying23 hi hz0 hz1 hz2 hzs (by decide) _ _ _ rfl (World.ownsRow_made w #[] 0 (Nat.le_refl _) (Nat.zero_le _) (by simp)) a 0 c [] rfl rfl (by intro j u hj; simp at hj) (by intro u hu; cases hu) (by decide) (by decide) (by simp) ?_)
    intro v' w1 hown hgrow hnil
    go_wp2
    go_ret
    refine ⟨v', rfl, by simpa using hown, ?_⟩
    exact ((Below.refl _ w).alloc (Nat.le_refl _) _).grown hgrow (by simp) (by intro k hk; simp [Value.ownBlock] at hk; omega)
end Go.Proofs.YtkkdkhacligaoaaGreatDoor.law
