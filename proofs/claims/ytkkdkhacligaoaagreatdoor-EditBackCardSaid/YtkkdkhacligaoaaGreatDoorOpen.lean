/- What comes in, as plain values. -/
import Derived.Test.YtkkdkhacligaoaaGreatDoorFacts
import Derived.Test.YtkkdkhacligaoaaGreatDoorMd
set_option linter.unusedSimpArgs false
set_option linter.unusedVariables false
namespace Go.Proofs.YtkkdkhacligaoaaGreatDoor.law
open Go.PI
section
variable {H : Type} {enc : TypeId × Value → H} {w : World} {spare : Nat → Bool} {held : Bool} {n : Nat} {cs : List Value} {x : DataW H × List MemPlace}
theorem c_u8 : Tryz.prog.cellsOf 5 = 1 := by kernel_rfl
theorem c_int : Tryz.prog.cellsOf 3 = 1 := by kernel_rfl
theorem c_oct : Tryz.prog.cellsOf 23 = 1 := by kernel_rfl
theorem c_ints : Tryz.prog.cellsOf 33 = 1 := by kernel_rfl
theorem c_leaf : Tryz.prog.cellsOf 25 = 4 := by kernel_rfl
theorem c_inner : Tryz.prog.cellsOf 35 = 3 := by kernel_rfl
theorem c_node : Tryz.prog.cellsOf 37 = 8 := by kernel_rfl
theorem o_oct (h : DataW.trod enc Tryz.prog w 0 spare held n 23 cs = some x) : ∃ l : List UInt8, RelL w (inHeap w) mu0 [octP l] cs ∧ True := by
  obtain ⟨v, l, rfl, hr, _, _⟩ := open_list (f := octF) (k := 1) (Good := fun _ => True) octF_len (fun _ => rfl) (by decide) c_u8 Tryz.underlying23 (fun n cs x h => open_u8 Tryz.underlying5 h) h
  exact ⟨l, relL_one_mk hr, trivial⟩
theorem o_ints (h : DataW.trod enc Tryz.prog w 0 spare held n 33 cs = some x) : ∃ l : List Int, RelL w (inHeap w) mu0 [intsP l] cs ∧ (l.length : Int) ≤ 9223372036854775807 := by
  obtain ⟨v, l, rfl, hr, _, hl⟩ := open_list (f := intF) (k := 1) (Good := fun _ => True) intF_len (fun _ => rfl) (by decide) c_int Tryz.underlying33 (fun n cs x h => open_i64 Tryz.underlying3 h) h
  exact ⟨l, relL_one_mk hr, hl⟩
theorem parts4 {cs : List Value} (h : cs.length = 4) : cs = (cs.drop 0).take 1 ++ ((cs.drop 1).take 1 ++ ((cs.drop 2).take 1 ++ (cs.drop 3).take 1)) := by
  match cs, h with
  | [a, b, c, d], _ => rfl
theorem parts3 {cs : List Value} (h : cs.length = 3) : cs = (cs.drop 0).take 1 ++ ((cs.drop 1).take 1 ++ (cs.drop 2).take 1) := by
  match cs, h with
  | [a, b, c], _ => rfl
theorem parts8 {cs : List Value} (h : cs.length = 8) : cs = (cs.drop 0).take 1 ++ ((cs.drop 1).take 4 ++ (cs.drop 5).take 3) := by
  match cs, h with
  | [a, b, c, d, e, f, g, i], _ => rfl
theorem o_leaf (h : DataW.trod enc Tryz.prog w 0 spare held n 25 cs = some x) : ∃ l : Leaf, RelL w (inHeap w) mu0 (leafCs l) cs ∧ True := by
  obtain ⟨hl, hf⟩ := open_field Tryz.underlying25 h
  obtain ⟨_, _, h0⟩ := hf 0 _ rfl
  obtain ⟨_, _, h1⟩ := hf 1 _ rfl
  obtain ⟨_, _, h2⟩ := hf 2 _ rfl
  obtain ⟨_, _, h3⟩ := hf 3 _ rfl
  obtain ⟨a, ha, _⟩ := o_oct h0
  obtain ⟨b, hb, _⟩ := o_oct h1
  obtain ⟨c, hc, _⟩ := open_i64 Tryz.underlying3 h2
  obtain ⟨d, hd, _⟩ := o_oct h3
  rw [c_leaf] at hl
  have ha : RelL w (inHeap w) mu0 [octP a] ((cs.drop 0).take (Tryz.prog.cellsOf 23)) := ha
  rw [c_oct] at ha
  have hb : RelL w (inHeap w) mu0 [octP b] ((cs.drop 1).take (Tryz.prog.cellsOf 23)) := hb
  rw [c_oct] at hb
  have hc : RelL w (inHeap w) mu0 [i64P c] ((cs.drop 2).take (Tryz.prog.cellsOf 3)) := hc
  rw [c_int] at hc
  have hd : RelL w (inHeap w) mu0 [octP d] ((cs.drop 3).take (Tryz.prog.cellsOf 23)) := hd
  rw [c_oct] at hd
  refine ⟨⟨a, b, c, d⟩, ?_, trivial⟩
  rw [parts4 hl]
  exact ha.append (hb.append (hc.append hd))
theorem o_inner (h : DataW.trod enc Tryz.prog w 0 spare held n 35 cs = some x) : ∃ l : Inner, RelL w (inHeap w) mu0 (innerCs l) cs ∧ (l.unmerged.length : Int) ≤ 9223372036854775807 := by
  obtain ⟨hl, hf⟩ := open_field Tryz.underlying35 h
  obtain ⟨_, _, h0⟩ := hf 0 _ rfl
  obtain ⟨_, _, h1⟩ := hf 1 _ rfl
  obtain ⟨_, _, h2⟩ := hf 2 _ rfl
  obtain ⟨a, ha, _⟩ := o_oct h0
  obtain ⟨b, hb, _⟩ := o_oct h1
  obtain ⟨c, hc, hg⟩ := o_ints h2
  rw [c_inner] at hl
  have ha : RelL w (inHeap w) mu0 [octP a] ((cs.drop 0).take (Tryz.prog.cellsOf 23)) := ha
  rw [c_oct] at ha
  have hb : RelL w (inHeap w) mu0 [octP b] ((cs.drop 1).take (Tryz.prog.cellsOf 23)) := hb
  rw [c_oct] at hb
  have hc : RelL w (inHeap w) mu0 [intsP c] ((cs.drop 2).take (Tryz.prog.cellsOf 33)) := hc
  rw [c_ints] at hc
  refine ⟨⟨a, b, c⟩, ?_, hg⟩
  rw [parts3 hl]
  exact ha.append (hb.append hc)
theorem o_node (h : DataW.trod enc Tryz.prog w 0 spare held n 37 cs = some x) : ∃ l : Node, RelL w (inHeap w) mu0 (nodeCs l) cs ∧ WfN l := by
  obtain ⟨hl, hf⟩ := open_field Tryz.underlying37 h
  obtain ⟨_, _, h0⟩ := hf 0 _ rfl
  obtain ⟨_, _, h1⟩ := hf 1 _ rfl
  obtain ⟨_, _, h2⟩ := hf 2 _ rfl
  obtain ⟨a, ha, _⟩ := open_i64 Tryz.underlying3 h0
  obtain ⟨b, hb, _⟩ := o_leaf h1
  obtain ⟨c, hc, hg⟩ := o_inner h2
  rw [c_node] at hl
  have ha : RelL w (inHeap w) mu0 [i64P a] ((cs.drop 0).take (Tryz.prog.cellsOf 3)) := ha
  rw [c_int] at ha
  have hb : RelL w (inHeap w) mu0 (leafCs b) ((cs.drop 1).take (Tryz.prog.cellsOf 25)) := hb
  rw [c_leaf] at hb
  have hc : RelL w (inHeap w) mu0 (innerCs c) ((cs.drop 5).take (Tryz.prog.cellsOf 35)) := hc
  rw [c_inner] at hc
  refine ⟨⟨a, b, c⟩, ?_, hg⟩
  rw [parts8 hl]
  exact ha.append (hb.append hc)
theorem o_nodes (h : DataW.trod enc Tryz.prog w 0 spare held n 22 cs = some x) : ∃ l : List Node, RelL w (inHeap w) mu0 [nodesP l] cs ∧ WfT l := by
  obtain ⟨v, l, rfl, hr, hg, hl⟩ := open_list (f := nodeCs) (k := 8) (Good := WfN) nodeCs_len isC_node (by decide) c_node Tryz.underlying22 (fun n cs x h => o_node h) h
  exact ⟨l, relL_one_mk hr, hl, hg⟩
end
end Go.Proofs.YtkkdkhacligaoaaGreatDoor.law
