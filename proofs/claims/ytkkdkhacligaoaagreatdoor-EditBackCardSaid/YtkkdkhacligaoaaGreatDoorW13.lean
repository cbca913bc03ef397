/- Walks: what functions of the program come to, as the pure interpreter runs them. -/
import Derived.Test.YtkkdkhacligaoaaGreatDoorW12
set_option linter.unusedSimpArgs false
set_option linter.unusedVariables false
namespace Go.Proofs.YtkkdkhacligaoaaGreatDoor.law
open Go.PI
/-! ### Who comes and goes leaves nothing of itself -/
theorem add_zero {t : List Node} {l : Leaf} (hs : sane t = true) (h : addE t l = 0) : ∃ v, v = roomT t ∧ sane v = true ∧ leafCheck l = 0 ∧ addI t l = freeL v ∧ 0 ≤ freeL v ∧ 2 * freeL v < v.length ∧ addT t l = addAt v (freeL v) l ∧ t.length ≤ v.length ∧ (∀ x : Nat, (hx : x < v.length) → v[x] = if h : x < t.length then t[x] else noNode) := by
  have ht : tree t = t := by unfold tree; rw [if_pos hs]
  have hT : addT t l = addAt (roomT t) (freeL (roomT t)) l := by unfold addT; rw [if_pos h, ht]
  have hI : addI t l = freeL (roomT t) := by unfold addI; rw [if_pos h, ht]
  unfold addE at h
  split at h
  · rename_i h1; exact absurd h h1
  · rename_i h1
    split at h
    · omega
    · rename_i h2
      rw [ht] at h2
      have hl : leafCheck l = 0 := source_zero (k := 1) (by omega)
      by_cases hf : freeL t = -1
      · have hn : ¬ (t.length : Int) = 127 := fun hc => h2 ⟨hf, hc⟩
        have hr : roomT t = growL t := by unfold roomT; rw [if_pos hf]
        have hb := free_bound (free_grow hs hn)
        refine ⟨_, rfl, by rw [hr]; exact sane_grow hs hn, hl, hI, by rw [hr]; exact hb.1, by rw [hr]; exact hb.2.1, hT, by rw [hr, growL_len]; omega, fun x hx => ?_⟩
        simp only [hr]
        unfold growL
        rw [List.getElem_append]
        split
        · rfl
        · simp
      · have hr : roomT t = t := by unfold roomT; rw [if_neg hf]
        have hb := free_bound hf
        refine ⟨_, rfl, by rw [hr]; exact hs, hl, hI, by rw [hr]; exact hb.1, by rw [hr]; exact hb.2.1, hT, by rw [hr]; omega, fun x hx => ?_⟩
        rw [hr] at hx
        rw [dif_pos hx]
        simp only [hr]
theorem joinAll_get {i : Int} {t : List Node} {xs : List Int} {x : Nat} (hx : x < t.length) (h : (x : Int) ∉ xs) (h0 : ∀ y ∈ xs, 0 ≤ y) : (joinAll i t xs)[x]'(by rw [joinAll_len]; exact hx) = t[x] := by
  induction xs generalizing t with
  | nil => rfl
  | cons y xs ih =>
    have h1 := ih (t := joinAt i t y) (by rw [joinAt, List.length_set]; exact hx) (fun hm => h (List.mem_cons_of_mem _ hm)) (fun z hz => h0 z (List.mem_cons_of_mem _ hz))
    have hy := h0 y (by simp)
    have hne : ¬ (x : Int) = y := fun he => h (by rw [he]; simp)
    have e : joinAll i t (y :: xs) = joinAll i (joinAt i t y) xs := rfl
    simp only [e, h1]
    unfold joinAt
    rw [List.getElem_set, if_neg (by omega)]
theorem sane_add {t : List Node} {l : Leaf} (hs : sane t = true) (h : addE t l = 0) : sane (addT t l) = true := by
  obtain ⟨v, hv, hsv, hl, hI, h0, h1, hT, hle, hget⟩ := add_zero hs h
  rw [hT]
  have hw := sane_whole hsv (by omega)
  have hvl := sane_len hsv
  exact sane_joinAll (sane_laid hsv h0 hl) (fun y hy => by rw [laidL_len]; exact direct_bound (x := 2 * freeL v) hw (by omega) h1 (by simpa using hy)) h0 (by omega)
theorem upI_way {i : Int} {n : Nat} (hw : whole n = true) (h0 : 0 ≤ i) (h1 : 2 * i < n) (y : Int) : y ∈ upI (2 * i) n ↔ y ∈ wayUp i n := by
  obtain ⟨hu, _, _⟩ := up_all (x := 2 * i) hw (by omega) h1
  have hd : directN (2 * i).toNat n = (upI (2 * i) n).drop 1 := by
    unfold upI directN
    rw [if_neg (by omega), List.map_drop]; rfl
  unfold wayUp
  rw [hd]
  generalize upI (2 * i) n = u at *
  subst hu
  simp [or_comm]
theorem add_at {t : List Node} {l : Leaf} (hs : sane t = true) (h : addE t l = 0) : 0 ≤ addI t l ∧ 2 * addI t l < (addT t l).length ∧ (nth (addT t l) (2 * addI t l)).kind = 1 ∧ t.length ≤ (addT t l).length ∧ addI t l ≤ 63 ∧
    ∀ x : Nat, (hx : x < (addT t l).length) → (x : Int) ∉ wayUp (addI t l) (addT t l).length → (addT t l)[x] = if h : x < t.length then t[x] else noNode := by
  obtain ⟨v, hv, hsv, hl, hI, h0, h1, hT, hle, hget⟩ := add_zero hs h
  have hw := sane_whole hsv (by omega)
  have hvl := sane_len hsv
  have hlen : (addT t l).length = v.length := by rw [hT, addAt_len]
  have hb : ∀ y ∈ directN (2 * freeL v).toNat v.length, 0 ≤ y := fun y hy => (direct_bound (x := 2 * freeL v) hw (by omega) h1 (by simpa using hy)).1
  rw [hI]
  refine ⟨h0, by omega, ?_, by omega, by omega, fun x hx hn => ?_⟩
  · have e : 2 * freeL v = ((2 * freeL v).toNat : Int) := by omega
    have hx : (2 * freeL v).toNat < v.length := by omega
    rw [e, nth_get (by omega)]
    have hnd : (((2 * freeL v).toNat : Nat) : Int) ∉ directN (2 * freeL v).toNat v.length := by
      intro hm
      have := direct_odd (x := 2 * freeL v) hw (by omega) h1 (by simpa using hm)
      omega
    have := joinAll_get (i := freeL v) (t := laidL v (freeL v) l) (x := (2 * freeL v).toNat) (by rw [laidL_len]; exact hx) hnd hb
    simp only [hT]
    unfold addAt
    rw [this]
    unfold laidL
    rw [List.getElem_set, if_pos rfl]
  · have hx' : x < v.length := by omega
    rw [hlen] at hn
    unfold wayUp at hn
    simp only [List.mem_append, List.mem_singleton, not_or] at hn
    have := joinAll_get (i := freeL v) (t := laidL v (freeL v) l) (x := x) (by rw [laidL_len]; exact hx') hn.1 hb
    simp only [hT]
    unfold addAt
    rw [this]
    unfold laidL
    rw [List.getElem_set, if_neg (by omega), hget x hx']
theorem clear_get {t : List Node} {i : Int} (hs : sane t = true) (h0 : 0 ≤ i) (h1 : 2 * i < t.length) (x : Nat) (hx : x < t.length) : (clearL t i)[x]'(by rw [clearL_len]; exact hx) = if (x : Int) ∈ wayUp i t.length then noNode else t[x] := by
  have hw := sane_whole hs (by omega)
  exact clearAll_get _ _ _ hx fun y hy => (way_bound hw h0 h1 hy).1
theorem sane_clear {t : List Node} {i : Int} (hs : sane t = true) (h0 : 0 ≤ i) (h1 : 2 * i < t.length) : sane (clearL t i) = true := by
  refine sane_of hs (clearL_len t i) fun x hx => ?_
  have hx' : x < t.length := by rw [clearL_len] at hx; exact hx
  rw [clear_get hs h0 h1 x hx']
  split
  · exact ok_noNode _
  · exact sane_get hs x hx'
theorem trimN_take (t : List Node) : ∃ n, n ≤ t.length ∧ trimN t = t.take n ∧ trimN (trimN t) = trimN t := by
  generalize hn : t.length = n
  induction n using Nat.strongRecOn generalizing t with
  | _ n ih =>
    by_cases h : 0 < t.length / 2 ∧ (t.drop (t.length / 2)).any isLeafN = false
    · rw [← trim_more h.1 h.2]
      obtain ⟨k, h1, h2, h3⟩ := ih (t.take (t.length / 2)).length (by rw [List.length_take]; omega) (t.take (t.length / 2)) rfl
      refine ⟨k, by rw [List.length_take] at h1; omega, ?_, h3⟩
      rw [h2, List.take_take, Nat.min_eq_left (by rw [List.length_take] at h1; omega)]
    · exact ⟨t.length, by omega, by rw [trim_end h, List.take_of_length_le (by omega)], by rw [trim_end h, trim_end h]⟩
theorem whole_half {w : Nat} (h : whole w = true) (h2 : 0 < w / 2) : whole ((w / 2 : Nat) : Int) = true := by
  unfold whole at h ⊢
  simp only [Bool.or_eq_true, decide_eq_true_eq] at h ⊢
  omega
theorem sane_take {t : List Node} {n : Nat} (hs : sane t = true) (hn : n ≤ t.length) (hw : whole n = true) : sane (t.take n) = true := by
  have hl : (t.take n).length = n := by rw [List.length_take]; omega
  unfold sane
  simp only [Bool.and_eq_true]
  refine ⟨List.all_eq_true.2 fun x hx => ?_, by rw [hl, hw]; simp⟩
  have hx := List.mem_range.1 hx
  rw [hl] at hx
  have : (t.take n).getD x default = t[x]'(by omega) := by
    rw [List.getD_eq_getElem?_getD, List.getElem?_take, if_pos hx, List.getElem?_eq_getElem (by omega)]; rfl
  rw [this]
  exact sane_get hs x (by omega)
theorem sane_trim {t : List Node} (hs : sane t = true) : sane (trimN t) = true := by
  generalize hn : t.length = n
  induction n using Nat.strongRecOn generalizing t with
  | _ n ih =>
    by_cases h : 0 < t.length / 2 ∧ (t.drop (t.length / 2)).any isLeafN = false
    · rw [← trim_more h.1 h.2]
      have hw := sane_whole hs (by omega)
      exact ih (t.take (t.length / 2)).length (by rw [List.length_take]; omega) (sane_take hs (by omega) (whole_half hw h.1)) rfl
    · rw [trim_end h]; exact hs
theorem trimK_again {t : List Node} (h : trimK t = true) : trimK (trimN t) = true := by
  obtain ⟨n, _, _, h3⟩ := trimN_take t
  have hs := sane_trim (trimK_sane h)
  unfold trimK at h ⊢
  rw [h3, hs]
  simp only [Bool.and_eq_true] at h
  rw [h.2]; rfl
theorem trimN_again (t : List Node) : trimN (trimN t) = trimN t := by
  obtain ⟨n, _, _, h3⟩ := trimN_take t
  exact h3
theorem add_have {t : List Node} {l : Leaf} (hs : sane t = true) (h : addE t l = 0) : haveE (tree (addT t l)) (addI t l) = 0 := by
  obtain ⟨h0, h1, h2, _, _, _⟩ := add_at hs h
  have ha := sane_add hs h
  have ht : tree (addT t l) = addT t l := by unfold tree; rw [if_pos ha]
  rw [ht]
  unfold haveE
  rw [if_neg (by omega), h2]; rfl
theorem rem_len {t : List Node} {l : Leaf} (hs : sane t = true) (h : addE t l = 0) : (removeT (addT t l) (addI t l)).length ≤ (addT t l).length := by
  have ha := sane_add hs h
  have ht : tree (addT t l) = addT t l := by unfold tree; rw [if_pos ha]
  unfold removeT
  split
  · obtain ⟨n, h1, h2, _⟩ := trimN_take (clearL (tree (addT t l)) (addI t l))
    rw [ht] at h1 h2 ⊢
    rw [h2, List.length_take, clearL_len]
    omega
  · simp
theorem back_get {t : List Node} {l : Leaf} (hs : sane t = true) (h : addE t l = 0) {x : Int} (hx0 : 0 ≤ x) (hx : x < ((removeT (addT t l) (addI t l)).length : Int)) :
    nth (removeT (addT t l) (addI t l)) x = if x < (t.length : Int) ∧ ¬ x ∈ upI (2 * addI t l) (addT t l).length then nth t x else noNode := by
  obtain ⟨h0, h1, h2, h3, _, h5⟩ := add_at hs h
  have ha := sane_add hs h
  have ht : tree (addT t l) = addT t l := by unfold tree; rw [if_pos ha]
  have hw := sane_whole ha (by omega)
  have hle := rem_len hs h
  have hway := upI_way hw h0 h1 x
  obtain ⟨k, rfl⟩ : ∃ k : Nat, x = k := ⟨x.toNat, by omega⟩
  unfold removeT at hx ⊢
  split at hx
  · rename_i hk
    rw [if_pos hk]
    obtain ⟨n, n1, n2, _⟩ := trimN_take (clearL (tree (addT t l)) (addI t l))
    rw [n2] at hx ⊢
    rw [ht] at hx n1 ⊢
    rw [List.length_take, clearL_len] at hx
    have hxa : k < (addT t l).length := by omega
    have hg := clear_get ha h0 h1 k hxa
    rw [nth_get (by rw [List.length_take, clearL_len]; omega), List.getElem_take, hg]
    by_cases hm : (k : Int) ∈ wayUp (addI t l) (addT t l).length
    · rw [if_pos hm, if_neg (fun c => c.2 (hway.2 hm))]
    · rw [if_neg hm, h5 _ hxa hm]
      by_cases hxt : k < t.length
      · rw [dif_pos hxt, if_pos ⟨by omega, fun c => hm (hway.1 c)⟩, nth_get hxt]
      · rw [dif_neg hxt, if_neg (fun c => hxt (by omega))]
  · simp at hx; omega
theorem slice_one {t : List Node} {x : Int} (h0 : 0 ≤ x) (h1 : x < (t.length : Int)) : (t.drop x.toNat).take ((x + 1).toNat - x.toNat) = [nth t x] := by
  have e : (x + 1).toNat - x.toNat = 1 := by omega
  have hx : x.toNat < t.length := by omega
  have e2 : nth t x = t[x.toNat] := by simp [nth, hx]
  rw [e, List.drop_eq_getElem_cons hx, e2]
  rfl
end Go.Proofs.YtkkdkhacligaoaaGreatDoor.law
