/- The index functions' answers on all widths and nodes, by the kernel. -/
import Derived.Test.YtkkdkhacligaoaaGreatDoorBase0
import Derived.Test.YtkkdkhacligaoaaGreatDoorMd
namespace Go.Proofs.YtkkdkhacligaoaaGreatDoor.law
open Go.PI
def lv : Nat → Nat → Nat
  | 0, _ => 0
  | f + 1, x => if x % 2 = 1 then lv f (x / 2) + 1 else 0
def parN (x w : Nat) : Option Nat := if x = w / 2 then none else some (if (x / 2 ^ (lv 8 x + 1)) % 2 = 0 then x + 2 ^ lv 8 x else x - 2 ^ lv 8 x)
def parI (x w : Nat) : Int := match parN x w with
  | some p => p
  | none => -1
def leftI (x : Nat) : Int := if lv 8 x = 0 then -1 else (x : Int) - 2 ^ (lv 8 x - 1)
def rightI (x : Nat) : Int := if lv 8 x = 0 then -1 else (x : Int) + 2 ^ (lv 8 x - 1)
def sibI (x w : Nat) : Int := match parN x w with
  | some p => 2 * (p : Int) - x
  | none => -1
def wholes : List Nat := [1, 3, 7, 15, 31, 63, 127]
def isInt (o : Option PV) (n : Int) : Bool := match o with
  | some (.s (.int .i64 m)) => decide (m = n)
  | _ => false
def isBool (o : Option PV) (n : Bool) : Bool := match o with
  | some (.s (.bool m)) => m == n
  | _ => false
theorem of_isInt {C : Cfg} {k : Nat} {f : Nat} {args : List PV} {n : Int} (h : isInt (pcall C (run C k) f args) n = true) : Run C f args (i64P n) := by
  refine run_of (k := k) ?_
  unfold isInt at h
  split at h
  · rename_i m he; rw [he, of_decide_eq_true h]; rfl
  · cases h
theorem of_isBool {C : Cfg} {k : Nat} {f : Nat} {args : List PV} {n : Bool} (h : isBool (pcall C (run C k) f args) n = true) : Run C f args (boolP n) := by
  refine run_of (k := k) ?_
  unfold isBool at h
  split at h
  · rename_i m he
    have : m = n := by simpa using h
    rw [he, this]; rfl
  · cases h
noncomputable def tabOk (f : Nat) (g : Nat → Nat → Int) (w : Nat) : Bool := (List.range w).all fun x => isInt (pcall C00 (run C00 60) f [i64P x, i64P w]) (g x w)
set_option maxRecDepth 100000 in
theorem tab_par_1 : tabOk 67 (parI) 1 = true := by kernel_rfl
set_option maxRecDepth 100000 in
theorem tab_par_3 : tabOk 67 (parI) 3 = true := by kernel_rfl
set_option maxRecDepth 100000 in
theorem tab_par_7 : tabOk 67 (parI) 7 = true := by kernel_rfl
set_option maxRecDepth 100000 in
theorem tab_par_15 : tabOk 67 (parI) 15 = true := by kernel_rfl
set_option maxRecDepth 100000 in
theorem tab_par_31 : tabOk 67 (parI) 31 = true := by kernel_rfl
set_option maxRecDepth 100000 in
theorem tab_par_63 : tabOk 67 (parI) 63 = true := by kernel_rfl
set_option maxRecDepth 100000 in
theorem tab_par_127 : tabOk 67 (parI) 127 = true := by kernel_rfl
theorem tab_par {w : Nat} (h : w ∈ wholes) : tabOk 67 (parI) w = true := by
  simp only [wholes, List.mem_cons, List.not_mem_nil, or_false] at h
  rcases h with rfl | rfl | rfl | rfl | rfl | rfl | rfl
  · exact tab_par_1
  · exact tab_par_3
  · exact tab_par_7
  · exact tab_par_15
  · exact tab_par_31
  · exact tab_par_63
  · exact tab_par_127
theorem run00_par {x w : Nat} (h : w ∈ wholes) (hx : x < w) : Run C00 67 [i64P x, i64P w] (i64P ((parI) x w)) := of_isInt (List.all_eq_true.1 (tab_par h) x (List.mem_range.2 hx))
set_option maxRecDepth 100000 in
theorem tab_left_1 : tabOk 70 (fun x _ => leftI x) 1 = true := by kernel_rfl
set_option maxRecDepth 100000 in
theorem tab_left_3 : tabOk 70 (fun x _ => leftI x) 3 = true := by kernel_rfl
set_option maxRecDepth 100000 in
theorem tab_left_7 : tabOk 70 (fun x _ => leftI x) 7 = true := by kernel_rfl
set_option maxRecDepth 100000 in
theorem tab_left_15 : tabOk 70 (fun x _ => leftI x) 15 = true := by kernel_rfl
set_option maxRecDepth 100000 in
theorem tab_left_31 : tabOk 70 (fun x _ => leftI x) 31 = true := by kernel_rfl
set_option maxRecDepth 100000 in
theorem tab_left_63 : tabOk 70 (fun x _ => leftI x) 63 = true := by kernel_rfl
set_option maxRecDepth 100000 in
theorem tab_left_127 : tabOk 70 (fun x _ => leftI x) 127 = true := by kernel_rfl
theorem tab_left {w : Nat} (h : w ∈ wholes) : tabOk 70 (fun x _ => leftI x) w = true := by
  simp only [wholes, List.mem_cons, List.not_mem_nil, or_false] at h
  rcases h with rfl | rfl | rfl | rfl | rfl | rfl | rfl
  · exact tab_left_1
  · exact tab_left_3
  · exact tab_left_7
  · exact tab_left_15
  · exact tab_left_31
  · exact tab_left_63
  · exact tab_left_127
theorem run00_left {x w : Nat} (h : w ∈ wholes) (hx : x < w) : Run C00 70 [i64P x, i64P w] (i64P ((fun x _ => leftI x) x w)) := of_isInt (List.all_eq_true.1 (tab_left h) x (List.mem_range.2 hx))
set_option maxRecDepth 100000 in
theorem tab_right_1 : tabOk 71 (fun x _ => rightI x) 1 = true := by kernel_rfl
set_option maxRecDepth 100000 in
theorem tab_right_3 : tabOk 71 (fun x _ => rightI x) 3 = true := by kernel_rfl
set_option maxRecDepth 100000 in
theorem tab_right_7 : tabOk 71 (fun x _ => rightI x) 7 = true := by kernel_rfl
set_option maxRecDepth 100000 in
theorem tab_right_15 : tabOk 71 (fun x _ => rightI x) 15 = true := by kernel_rfl
set_option maxRecDepth 100000 in
theorem tab_right_31 : tabOk 71 (fun x _ => rightI x) 31 = true := by kernel_rfl
set_option maxRecDepth 100000 in
theorem tab_right_63 : tabOk 71 (fun x _ => rightI x) 63 = true := by kernel_rfl
set_option maxRecDepth 100000 in
theorem tab_right_127 : tabOk 71 (fun x _ => rightI x) 127 = true := by kernel_rfl
theorem tab_right {w : Nat} (h : w ∈ wholes) : tabOk 71 (fun x _ => rightI x) w = true := by
  simp only [wholes, List.mem_cons, List.not_mem_nil, or_false] at h
  rcases h with rfl | rfl | rfl | rfl | rfl | rfl | rfl
  · exact tab_right_1
  · exact tab_right_3
  · exact tab_right_7
  · exact tab_right_15
  · exact tab_right_31
  · exact tab_right_63
  · exact tab_right_127
theorem run00_right {x w : Nat} (h : w ∈ wholes) (hx : x < w) : Run C00 71 [i64P x, i64P w] (i64P ((fun x _ => rightI x) x w)) := of_isInt (List.all_eq_true.1 (tab_right h) x (List.mem_range.2 hx))
set_option maxRecDepth 100000 in
theorem tab_sib_1 : tabOk 99 (sibI) 1 = true := by kernel_rfl
set_option maxRecDepth 100000 in
theorem tab_sib_3 : tabOk 99 (sibI) 3 = true := by kernel_rfl
set_option maxRecDepth 100000 in
theorem tab_sib_7 : tabOk 99 (sibI) 7 = true := by kernel_rfl
set_option maxRecDepth 100000 in
theorem tab_sib_15 : tabOk 99 (sibI) 15 = true := by kernel_rfl
set_option maxRecDepth 100000 in
theorem tab_sib_31 : tabOk 99 (sibI) 31 = true := by kernel_rfl
set_option maxRecDepth 100000 in
theorem tab_sib_63 : tabOk 99 (sibI) 63 = true := by kernel_rfl
set_option maxRecDepth 100000 in
theorem tab_sib_127 : tabOk 99 (sibI) 127 = true := by kernel_rfl
theorem tab_sib {w : Nat} (h : w ∈ wholes) : tabOk 99 (sibI) w = true := by
  simp only [wholes, List.mem_cons, List.not_mem_nil, or_false] at h
  rcases h with rfl | rfl | rfl | rfl | rfl | rfl | rfl
  · exact tab_sib_1
  · exact tab_sib_3
  · exact tab_sib_7
  · exact tab_sib_15
  · exact tab_sib_31
  · exact tab_sib_63
  · exact tab_sib_127
theorem run00_sib {x w : Nat} (h : w ∈ wholes) (hx : x < w) : Run C00 99 [i64P x, i64P w] (i64P ((sibI) x w)) := of_isInt (List.all_eq_true.1 (tab_sib h) x (List.mem_range.2 hx))

end Go.Proofs.YtkkdkhacligaoaaGreatDoor.law
