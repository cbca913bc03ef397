import Derived.Test.YtkkdkhacligaoaaGreatDoorRows
import Derived.Test.YtkkdkhacligaoaaGreatDoorMc
import Derived.KernelRfl
namespace Go.Proofs.YtkkdkhacligaoaaGreatDoor.law
def t32L : List Int := [0, 1, 28, 2, 29, 14, 24, 3, 30, 22, 20, 15, 25, 17, 4, 8, 31, 27, 13, 23, 21, 19, 16, 7, 26, 12, 18, 6, 11, 5, 10, 9]
def t64L : List Int := [0, 1, 56, 2, 57, 49, 28, 3, 61, 58, 42, 50, 38, 29, 17, 4, 62, 47, 59, 36, 45, 43, 51, 22, 53, 39, 33, 30, 24, 18, 12, 5, 63, 55, 48, 27, 60, 41, 37, 16, 46, 35, 44, 21, 52, 32, 23, 11, 54, 26, 40, 15, 34, 20, 31, 10, 25, 14, 19, 9, 13, 8, 7, 6]
def numL : List Int := [1116352408, 1899447441, 3049323471, 3921009573, 961987163, 1508970993, 2453635748, 2870763221, 3624381080, 310598401, 607225278, 1426881987, 1925078388, 2162078206, 2614888103, 3248222580, 3835390401, 4022224774, 264347078, 604807628, 770255983, 1249150122, 1555081692, 1996064986, 2554220882, 2821834349, 2952996808, 3210313671, 3336571891, 3584528711, 113926993, 338241895, 666307205, 773529912, 1294757372, 1396182291, 1695183700, 1986661051, 2177026350, 2456956037, 2730485921, 2820302411, 3259730800, 3345764771, 3516065817, 3600352804, 4094571909, 275423344, 430227734, 506948616, 659060556, 883997877, 958139571, 1322822218, 1537002063, 1747873779, 1955562222, 2024104815, 2227730452, 2361852424, 2428436474, 2756734187, 3204031479, 3329325298]
def globs : Nat → Option (Nat × List PI.PV)
  | 0 => some (166, t32L.map fun z => .s (.int .u8 z))
  | 1 => some (144, t64L.map fun z => .s (.int .u8 z))
  | 2 => some (161, numL.map fun z => .s (.int .u32 z))
  | _ => none
/-- Functions whose bodies are not run: regions whose order is open in another way. -/
def badL : List Nat := [
  193,
  194,
  195,
  197,
  198,
  200,
  201,
  215,
  0]
/-- Functions that are run in their caller's heap. -/
def inlL : List Nat := [
  178,
  180,
  179,
  206,
  46,
  84,
  109,
  151,
  97,
  137,
  124,
  157,
  81,
  121,
  123,
  122,
  135,
  0]
noncomputable def C00 : PI.Cfg := { P := Tryz.prog, fine := fun f => !(badL.contains f), inl := fun f => inlL.contains f, ext := fun _ _ => none, glob := globs }
def fnOk (x : Func × Nat) : Bool := x.1.name != "runtime.NumGoroutine" && (badL.contains x.2 || match x.1.body with | some c => PI.codeOk c | none => true)
set_option maxRecDepth 100000 in
theorem all_ok : (Tryz.prog.funcs.toList.zipIdx.all fnOk) = true := by kernel_rfl
theorem ok00 : PI.Ok C00 := by
  refine ⟨fun f fn c hf hb => ?_, fun f args q h => (by cases h), fun f args H vs H1 h => (by cases h)⟩
  have hm : (fn, f) ∈ Tryz.prog.funcs.toList.zipIdx := PI.zipIdx_mem (by simpa using (show Tryz.prog.funcs[f]? = some fn from hf))
  have := List.all_eq_true.1 all_ok _ hm
  unfold fnOk at this
  simp only [hb, Bool.and_eq_true, Bool.or_eq_true] at this
  refine ⟨?_, fun hfi => ?_⟩
  · have h1 := this.1
    simpa using h1
  · rcases this.2 with h | h
    · have : (!(badL.contains f)) = true := hfi
      rw [h] at this
      cases this
    · exact h
end Go.Proofs.YtkkdkhacligaoaaGreatDoor.law
