/- The pure interpreter of the dump's language and the proof that the model does what it does, texts L to U, for any program. -/
import Derived.Test.YtkkdkhacligaoaaGreatDoorMa
import Derived.AtR
import Derived.RangeFuncLeaves
import Derived.RangeFuncIn
section
/- The pure interpreter and its simulation, part 12. -/
set_option linter.unusedSimpArgs false
set_option linter.unusedVariables false
namespace Go.PI
section
variable {C : Cfg} {w w' : World} {B : Nat → Nat → Prop} {Bs : Nat} {μ : Mu} {H Hb : List HO} {a : Act}

/-! ### Maps whose keys are of type int -/
theorem map_under {t e : Nat} (h : mapElem C t = some e) : ∃ k, C.P.underlying t = some (.map k e) ∧ C.P.underlying k = some (.int .i64) := by
  unfold mapElem at h
  split at h
  · rename_i k e' hu
    split at h
    · rename_i hk
      cases h
      exact ⟨k, hu, kind_under hk⟩
    · cases h
  · cases h
theorem run_checkKey {k : Nat} (hk : C.P.underlying k = some (.int .i64)) (b : Bool) (n : Int) (w : World) : (Instr.checkKey b 10000 k (.int .i64 n)).run C.P w = .ok () w := by
  unfold Instr.checkKey
  simp [run_underlying hk]
theorem findNow_none {n : Int} : ∀ {ents : List MapEntry} {es : List (Int × PV)} {i : Nat}, ents.length = es.length → (∀ (j : Nat) (k : Int) (p : PV), es[j]? = some (k, p) → ∃ m, ents[j]? = some m ∧ m.key = .int .i64 k) → findK n es = none →
    Instr.findNow (.int .i64) (.int .i64 n) ents i = some none
  | [], [], i, _, _, _ => rfl
  | m :: ents, (k, p) :: es, i, hl, h, hf => by
    obtain ⟨m', hm, hk⟩ := h 0 k p rfl
    simp at hm
    subst hm
    unfold findK at hf
    split at hf
    · cases hf
    · rename_i hne
      unfold Instr.findNow
      rw [hk]
      have : (n == k) = false := by simpa using hne
      simp only [Instr.sameNow, if_true, this]
      exact findNow_none (by simpa using hl) (fun j k p hj => by simpa using h (j + 1) k p (by simpa using hj)) hf
theorem findNow_some {n : Int} {q : PV} : ∀ {ents : List MapEntry} {es : List (Int × PV)} {i : Nat}, ents.length = es.length → (∀ (j : Nat) (k : Int) (p : PV), es[j]? = some (k, p) → ∃ m, ents[j]? = some m ∧ m.key = .int .i64 k) → findK n es = some q →
    ∃ j m, es[j]? = some (n, q) ∧ ents[j]? = some m ∧ Instr.findNow (.int .i64) (.int .i64 n) ents i = some (some (i + j, m.val)) ∧ ∀ v, putK n v es = es.set j (n, v)
  | [], [], i, _, _, hf => by cases hf
  | m :: ents, (k, p) :: es, i, hl, h, hf => by
    obtain ⟨m', hm, hk⟩ := h 0 k p rfl
    simp at hm
    subst hm
    unfold findK at hf
    split at hf
    · rename_i he
      subst he
      cases hf
      refine ⟨0, m, rfl, rfl, ?_, fun v => by simp [putK]⟩
      unfold Instr.findNow
      rw [hk]
      simp [Instr.sameNow]
    · rename_i hne
      obtain ⟨j, m', h1, h2, h3, h4⟩ := findNow_some (i := i + 1) (by simpa using hl) (fun j k p hj => by simpa using h (j + 1) k p (by simpa using hj)) hf
      refine ⟨j + 1, m', by simpa using h1, by simpa using h2, ?_, fun v => by simp [putK, hne, h4]⟩
      unfold Instr.findNow
      rw [hk]
      have : (n == k) = false := by simpa using hne
      simp only [Instr.sameNow, if_true, this]
      rw [h3]
      simp
      omega
theorem putK_none {n : Int} {v : PV} : ∀ {es : List (Int × PV)}, findK n es = none → putK n v es = es ++ [(n, v)]
  | [], _ => rfl
  | (k, p) :: es, h => by
    unfold findK at h
    split at h
    · cases h
    · rename_i hne
      simp [putK, hne, putK_none h]
theorem St.mapAt (st : St C B Bs μ H w) {r : Nat} {l : Loc} (hr : μ r = some l) {es : List (Int × PV)} (ho : H[r]? = some (.map es)) :
    l.blk = true ∧ ∃ ents clock, w.heap[l.g]? = some (.map ents clock) ∧ ents.size = es.length ∧ ∀ (i : Nat) (k : Int) (p : PV), es[i]? = some (k, p) → ∃ m, ents[i]? = some m ∧ m.key = .int .i64 k ∧ Rel w (Bn B Bs μ H w) μ p m.val := by
  obtain ⟨o, ho', hobj⟩ := st.obj r l hr
  rw [ho] at ho'
  cases ho'
  cases hobj with
  | map hk hh hl hr => exact ⟨hk, _, _, hh, hl, hr⟩
theorem run_zeroS {t : Nat} {q : PV} {B' : Nat → Nat → Prop} (h : zeroS C t = some q) : ∃ v, (∀ w, (zeroValue t).run C.P w = .ok v w) ∧ Rel w B' μ q v := by
  unfold zeroS at h
  split at h
  · rename_i v hv
    split at h
    · rename_i hs
      cases h
      refine ⟨v, fun w => ?_, .s hs⟩
      obtain ⟨i, hi, hz⟩ := Option.bind_eq_some_iff.1 hv
      simp [zeroValue, typeInfo, hi, hz]
    · cases h
  · cases h
theorem sim_lookup (st : St C B Bs μ H w) {o : Oper} {t e : Nat} {x y : Operand} {r : Nat} {k : Int} {es : List (Int × PV)} {v : PV} (ho : o.op = .lookup t x y true) (ht : mapElem C t = some e)
    (hx : Rel w (Bn B Bs μ H w) μ (.map r) (a.eval x)) (hy : a.eval y = .int .i64 k) (hes : H[r]? = some (.map es))
    (h : (∃ q, findK k es = some q ∧ v = .tup [q, boolP true]) ∨ (findK k es = none ∧ ∃ q, zeroS C e = some q ∧ v = .tup [q, boolP false])) : MSim C B Bs a o H μ w v H := by
  obtain ⟨kt, hu, hk⟩ := map_under ht
  generalize hux : a.eval x = u at hx
  cases hx with
  | @map _ _ l hmu =>
    obtain ⟨hkb, ents, clock, hh, hl, hr⟩ := st.mapAt hmu hes
    have hkeys : ∀ (j : Nat) (k : Int) (p : PV), es[j]? = some (k, p) → ∃ m, ents.toList[j]? = some m ∧ m.key = .int .i64 k := fun j k p hj => by
      obtain ⟨m, h1, h2, _⟩ := hr j k p hj
      exact ⟨m, by simpa using h1, h2⟩
    have hget : ∀ w', w'.heap[l.g]? = some (.map ents clock) → (getObj l.g).run C.P w' = .ok (.map ents clock) w' := fun w' h => by simp [getObj, Sem.run, h]
    rcases h with ⟨q, hq, rfl⟩ | ⟨hq, q, hz, rfl⟩
    · obtain ⟨j, m, e1, e2, e3, _⟩ := findNow_some (i := 0) (by simpa using hl) hkeys hq
      obtain ⟨m', e4, e5, e6⟩ := hr j k q e1
      have : m' = m := by
        have e2' : ents[j]? = some m := by simpa using e2
        rw [e2'] at e4
        exact (Option.some.inj e4).symm
      subst this
      refine ⟨.value (.tuple #[m'.val, .bool true]), _, w, μ, ?_, .inl rfl, st, .refl _ _ _, .tup rfl (fun i p u hp hu => ?_)⟩
      · simp only [execOp, ho, hux, hy, Instr.lookup, Sem.run_bind, run_underlying hu, Result.andThen_ok, hget w hh, Sem.run_pure, run_checkKey hk, Instr.findKey, run_underlying hk, e3]
        simp
      · match i with
        | 0 => simp at hp hu; subst hp; subst hu; exact e6
        | 1 => simp at hp hu; subst hp; subst hu; exact .s rfl
        | i + 2 => simp at hp
    · have e3 := findNow_none (n := k) (i := 0) (ents := ents.toList) (es := es) (by simpa using hl) hkeys hq
      obtain ⟨zv, hzr, hzv⟩ := run_zeroS (w := w) (μ := μ) (B' := Bn B Bs μ H w) hz
      refine ⟨.value (.tuple #[zv, .bool false]), _, w, μ, ?_, .inl rfl, st, .refl _ _ _, .tup rfl (fun i p u hp hu => ?_)⟩
      · simp only [execOp, ho, hux, hy, Instr.lookup, Sem.run_bind, run_underlying hu, Result.andThen_ok, hget w hh, Sem.run_pure, run_checkKey hk, Instr.findKey, run_underlying hk, e3, hzr]
        simp
      · match i with
        | 0 => simp at hp hu; subst hp; subst hu; exact hzv
        | 1 => simp at hp hu; subst hp; subst hu; exact .s rfl
        | i + 2 => simp at hp

def setObjW (w : World) (g : Nat) (o : Obj) : World := { w with heap := w.heap.setIfInBounds g o }
theorem pres_setObj (w : World) (g : Nat) (o : Obj) (h : (∀ L : Loop, w.heap[g]? ≠ some (Obj.loop L)) ∨ ∃ L, o = Obj.loop L) : Pres (fun b => b = g) w (setObjW w g o) :=
  ⟨rfl, rfl, rfl, by simp [setObjW], fun b hb hn => by
    simp only [setObjW, Array.getElem?_setIfInBounds]
    rw [if_neg (fun h => hn h.symm)], fun b L hb => by
    simp only [setObjW, Array.getElem?_setIfInBounds]
    by_cases e : g = b
    · subst e
      rcases h with h | ⟨L', rfl⟩
      · exact absurd hb (h L)
      · exact ⟨L', by simp [(Array.getElem?_eq_some_iff.1 hb).1]⟩
    · exact ⟨L, by rw [if_neg e]; exact hb⟩⟩
theorem setObjW_get {w : World} {g : Nat} {o o' : Obj} (h : w.heap[g]? = some o') : (setObjW w g o).heap[g]? = some o := by
  have hlt := (Array.getElem?_eq_some_iff.1 h).1
  simp [setObjW, hlt]
theorem sim_mapUpdate (st : St C B Bs μ H w) {o : Oper} {t e : Nat} {x y z : Operand} {r : Nat} {k : Int} {es : List (Int × PV)} {v : PV} (ho : o.op = .mapUpdate t x y z) (ht : mapElem C t = some e)
    (hx : Rel w (Bn B Bs μ H w) μ (.map r) (a.eval x)) (hy : a.eval y = .int .i64 k) (hz : Rel w (Bn B Bs μ H w) μ v (a.eval z)) (hes : H[r]? = some (.map es)) : MSim C B Bs a o H μ w undefP (H.set r (.map (putK k v es))) := by
  obtain ⟨kt, hu, hk⟩ := map_under ht
  generalize hux : a.eval x = u at hx
  cases hx with
  | @map _ _ l hmu =>
    obtain ⟨hkb, ents, clock, hh, hl, hr⟩ := st.mapAt hmu hes
    have hkeys : ∀ (j : Nat) (k : Int) (p : PV), es[j]? = some (k, p) → ∃ m, ents.toList[j]? = some m ∧ m.key = .int .i64 k := fun j k p hj => by
      obtain ⟨m, h1, h2, _⟩ := hr j k p hj
      exact ⟨m, by simpa using h1, h2⟩
    have hget : (getObj l.g).run C.P w = .ok (.map ents clock) w := by simp [getObj, Sem.run, hh]
    have hset : ∀ O, (setObj l.g O).run C.P w = .ok () (setObjW w l.g O) := fun O => by simp [setObj, Sem.run, hh, setObjW]
    rcases hq : findK k es with _ | q
    · have e3 := findNow_none (n := k) (i := 0) (ents := ents.toList) (es := es) (by simpa using hl) hkeys hq
      obtain ⟨st', he⟩ := st.write hmu hes rfl hkb (pres_setObj w l.g (.map (ents.push { key := .int .i64 k, val := a.eval z, born := clock }) (clock + 1)) (.inl (fun L h => by rw [hh] at h; cases h))) (o' := .map (putK k v es)) rfl
        (fun B' hm => .map hkb (setObjW_get hh) (by rw [putK_none hq]; simp [hl]) (fun i k' p hp => by
          rw [putK_none hq] at hp
          rcases Nat.lt_or_ge i es.length with hi | hi
          · rw [List.getElem?_append_left hi] at hp
            obtain ⟨m, h1, h2, h3⟩ := hr i k' p hp
            exact ⟨m, by rw [Array.getElem?_push_lt (by omega)]; rw [← h1, Array.getElem?_eq_getElem], h2, hm _ _ h3⟩
          · rw [List.getElem?_append_right hi] at hp
            have : i = es.length := by
              have := (List.getElem?_eq_some_iff.1 hp).1
              simp at this
              omega
            subst this
            simp at hp
            obtain ⟨rfl, rfl⟩ := hp
            exact ⟨_, by rw [← hl]; exact Array.getElem?_push_size, rfl, hm _ _ hz⟩))
      refine ⟨.skip, undef, _, μ, ?_, .inr ⟨rfl, rfl⟩, st', he, rel_undef⟩
      simp only [execOp, ho, hux, hy, Instr.mapUpdate, Sem.run_bind, run_underlying hu, Result.andThen_ok, hget, Sem.run_pure, run_checkKey hk, Instr.findKey, run_underlying hk, e3, hset]
    · obtain ⟨j, m, e1, e2, e3, e4⟩ := findNow_some (i := 0) (by simpa using hl) hkeys hq
      rw [Nat.zero_add] at e3
      obtain ⟨m', e5, e6, _⟩ := hr j k q e1
      have e2' : ents[j]? = some m := by simpa using e2
      have : m' = m := by rw [e2'] at e5; exact (Option.some.inj e5).symm
      subst this
      have hstay : ∀ w, (Instr.keyThatStays (((ents[j]?).map (·.key)).getD (.int .i64 k)) (.int .i64 k)).run C.P w = .ok (.int .i64 k) w := fun w => by
        simp [Instr.keyThatStays, e2', e6, Instr.sameBits]
      obtain ⟨st', he⟩ := st.write hmu hes rfl hkb (pres_setObj w l.g (.map (ents.modify j fun e => { e with key := .int .i64 k, val := a.eval z }) clock) (.inl (fun L h => by rw [hh] at h; cases h))) (o' := .map (putK k v es)) rfl
        (fun B' hm => .map hkb (setObjW_get hh) (by rw [e4]; simp [hl]) (fun i k' p hp => by
          rw [e4, List.getElem?_set] at hp
          simp only [Array.getElem?_modify]
          split at hp
          · rename_i hij
            subst hij
            split at hp
            · cases hp
              exact ⟨{ m' with key := .int .i64 k, val := a.eval z }, by simp [e2'], rfl, hm _ _ hz⟩
            · cases hp
          · rename_i hij
            obtain ⟨m, h1, h2, h3⟩ := hr i k' p hp
            exact ⟨m, by rw [if_neg hij]; exact h1, h2, hm _ _ h3⟩))
      refine ⟨.skip, undef, _, μ, ?_, .inr ⟨rfl, rfl⟩, st', he, rel_undef⟩
      simp only [execOp, ho, hux, hy, Instr.mapUpdate, Sem.run_bind, run_underlying hu, Result.andThen_ok, hget, Sem.run_pure, run_checkKey hk, Instr.findKey, run_underlying hk, e3, hstay, hset]
end
end Go.PI

end
section
/- The pure interpreter and its simulation, part 13. -/
set_option linter.unusedSimpArgs false
set_option linter.unusedVariables false
namespace Go.PI
section
variable {C : Cfg} {w w' : World} {B : Nat → Nat → Prop} {Bs : Nat} {μ : Mu} {H Hb : List HO} {a : Act}

/-! ### append, copy -/
/-- What is appended: cells of a slice, or zeros. -/
def ASrc (P : Program) (i : TypeInfo) (tx : TypeId) (x : Value) (n : Nat) (news : List Value) (w : World) : Prop :=
  Src P i.size tx x n news w ∨ ∃ k z, P.underlying tx = some (.int k) ∧ x = .int .i64 n ∧ n ≤ room ∧ n * i.bytes ≤ room ∧ i.zero = some z ∧ z.cells.size = i.size ∧ 0 < i.size ∧ news = (List.replicate n z.cells.toList).flatten
def keepAt (P : Program) (base : Option Addr) (k : Nat) (news : List Value) (w : World) : Result Unit := match base with
  | some a => (storeCells (a.add k) news).run P w
  | none => .ok () w
theorem zeroCells_list (z : Array Value) (n : Nat) (h0 : 0 < z.size) : Builtin.zeroCells z n = ((List.replicate n z.toList).flatten).toArray := by
  apply Array.ext'
  rw [List.toList_toArray, ← repl_cells n z h0]
  rfl
theorem append_norm {args : Array Value} {tys : Array TypeId} {t tx ty : TypeId} {s x : Value} (h0 : tys[0]? = some t) (h1 : tys[1]? = some tx) (h2 : args[0]? = some s) (h3 : args[1]? = some x) :
    Builtin.append_ tys ty args = Builtin.append_ #[t, tx] ty #[s, x] := by
  unfold Builtin.append_
  simp only [h0, h1, h2, h3]
  rfl
section
variable {t tx ty e : TypeId} {i : TypeInfo} {z : Value} {base : Option Addr} {sLen sCap : Nat} {olds news : List Value} {x : Value} {n : Nat} {P : Program}
theorem run_app_grow (ht : P.underlying t = some (.slice e)) (hi : P.info? e = some i) (hz : i.zero = some z) (hold : (Builtin.firstCells i.size sLen (.slice base sLen sCap)).run P w.drew = .ok olds.toArray w.drew)
    (hs : ASrc P i tx x n news w) (hsc : sLen ≤ sCap) (hg : sCap < sLen + n) (hr : sLen + n ≤ room) (hb : (sLen + n) * i.bytes ≤ room) :
    (Builtin.append_ #[t, tx] ty #[.slice base sLen sCap, x]).run P w =
      .ok (.slice (some ⟨w.heap.size, 0, none⟩) (sLen + n) (grownCap w (sLen + n) sCap e))
        (w.drew.alloc (.cells ((olds ++ news).toArray ++ Builtin.zeroCells z.cells (grownCap w (sLen + n) sCap e - (sLen + n))) e)) := by
  simp only [room] at hr hb
  have hfit := growslice_fits (bytes := i.bytes) hg (by omega)
  rcases hs with hs | ⟨k, z', hk, rfl, h1, h2, h3, h4, h5, rfl⟩
  · exact run_append_grow_src w t tx ty e i z ht hi hz base sLen sCap olds hold x n news hs hg (by omega) hfit
  · rw [hz] at h3
    cases h3
    have hn : ¬ (sLen + n ≤ sCap) := by omega
    have h63' : ¬ (9223372036854775807 < ((sLen : Int) + (n : Int))) := by omega
    have h48' : ¬ (281474976710656 < Builtin.nextslicecap (sLen + n) sCap * i.bytes) := by omega
    have hw : IntKind.i64.wrap (n : Int) = (n : Int) := wrap_i64 (by omega) (by simpa using h1)
    have hw' : (n : Int).toNat = n := by simp
    simp only [room] at h2
    have hnb : ¬ ((n : Int) * (i.bytes : Int) > 281474976710656) := by
      rw [← Int.natCast_mul]
      omega
    have hneg : ¬ ((n : Int) < 0) := by omega
    have hl0 : n * i.size = 0 → n = 0 := fun h => by
      rcases Nat.mul_eq_zero.1 h with h | h
      · exact h
      · omega
    have e1 := zeroCells_list z.cells n (by omega)
    have e2 : (olds ++ (List.replicate n z.cells.toList).flatten).toArray = olds.toArray ++ Builtin.zeroCells z.cells n := by rw [e1]; simp
    rw [e2]
    have e0 : Builtin.zeroCells z.cells 0 = #[] := by simp [Builtin.zeroCells]
    by_cases hn0 : n = 0
    · omega
    · have : ¬ (n * i.size = 0) := fun h => hn0 (hl0 h)
      simp [Builtin.append_, run_underlying ht, run_underlying hk, sizeOf, typeInfo, zeroValue, hi, hz, asInt, asIntOf, hw, hn, h63', h48', hnb, Question.forced, hold, newRow, grownCap, this, hneg]
theorem run_app_room (ht : P.underlying t = some (.slice e)) (hi : P.info? e = some i) (hs : ASrc P i tx x n news w) (hg : sLen + n ≤ sCap) :
    (Builtin.append_ #[t, tx] ty #[.slice base sLen sCap, x]).run P w =
      (keepAt P base (sLen * i.size) news w).andThen fun _ w' => .ok (.slice base (sLen + n) sCap) w' := by
  rcases hs with hs | ⟨k, z', hk, rfl, h1, h2, h3, h4, h5, rfl⟩
  · rcases hs.kind with ⟨e', hk⟩ | hk <;> cases base <;> simp [keepAt, Builtin.append_, run_underlying ht, run_underlying hk, sizeOf, typeInfo, hi, hs.len, hg, hs.cells]
  · have hw : IntKind.i64.wrap (n : Int) = (n : Int) := wrap_i64 (by omega) (by simpa using h1)
    simp only [room] at h2
    have hnb : ¬ ((n : Int) * (i.bytes : Int) > 281474976710656) := by
      rw [← Int.natCast_mul]
      omega
    have hneg : ¬ ((n : Int) < 0) := by omega
    have hl0 : n * i.size = 0 → n = 0 := fun h => by
      rcases Nat.mul_eq_zero.1 h with h | h
      · exact h
      · omega
    have e1 := zeroCells_list z'.cells n (by omega)
    by_cases hn0 : n = 0
    · subst hn0
      have hw0 : IntKind.i64.wrap 0 = 0 := by simpa using hw
      have hg0 : sLen ≤ sCap := by simpa using hg
      cases base <;> simp [keepAt, hw0, hg0, Builtin.append_, run_underlying ht, run_underlying hk, sizeOf, typeInfo, zeroValue, hi, h3, asInt, asIntOf, hw, hnb, hg, storeCells]
    · have : ¬ (n * i.size = 0) := fun h => hn0 (hl0 h)
      cases base <;> simp [keepAt, Builtin.append_, run_underlying ht, run_underlying hk, sizeOf, typeInfo, zeroValue, hi, h3, asInt, asIntOf, hw, hnb, hneg, this, hg, e1]
end

theorem relL_one {B' : Nat → Nat → Prop} {ps : List PV} {us : List Value} (h : RelL w B' μ ps us) (h1 : ∀ p ∈ ps, isCell p = true) : ∀ u ∈ us, u.oneCell' = true := by
  intro u hu
  obtain ⟨i, hi⟩ := List.mem_iff_getElem?.1 hu
  have hlt : i < ps.length := by rw [← h.1]; exact (List.getElem?_eq_some_iff.1 hi).1
  exact (h.2 i _ u (List.getElem?_eq_getElem hlt) hi).one (h1 _ (List.getElem_mem hlt))
theorem St.kill (st : St C B Bs μ H w) (r : Nat) : St C B Bs μ (H.set r .dead) w ∧ Ext μ H w μ (H.set r .dead) w := by
  have key : ∀ (r1 : Nat) (o1 : HO), (H.set r .dead)[r1]? = some o1 → live o1 = true → H[r1]? = some o1 := by
    intro r1 o1 h hl
    by_cases e : r1 = r
    · subst e
      rw [List.getElem?_set] at h
      simp only [if_true] at h
      split at h
      · cases h; cases hl
      · cases h
    · rw [List.getElem?_set_ne (Ne.symm e)] at h; exact h
  have he : Ext μ H w μ (H.set r .dead) w := ⟨.refl _ _, fun _ _ h => h, fun b hb => .inl (by
    obtain ⟨r', l', o', h1, h2, h3, h4, h5⟩ := hb
    exact ⟨r', l', o', h1, h2, h3, key r' o' h4 (live_of_writable h5), h5⟩)⟩
  refine ⟨⟨fun r' l' h => ?_, fun r1 r2 l1 l2 o1 o2 h1 h2 h3 h4 hl1 hl2 => st.inj r1 r2 l1 l2 o1 o2 h1 h2 (key _ _ h3 hl1) (key _ _ h4 hl2) hl1 hl2,
    fun r1 l1 o1 h1 h2 hl1 => st.base r1 l1 o1 h1 (key _ _ h2 hl1) hl1, st.bs, st.low, fun n e cs hn => st.rel he (st.glob n e cs hn)⟩, he⟩
  obtain ⟨o, ho, hobj⟩ := st.obj r' l' h
  by_cases e : r' = r
  · subst e
    exact ⟨.dead, by simp [st.lt h], .dead⟩
  · exact ⟨o, by rw [List.getElem?_set_ne (Ne.symm e)]; exact ho, st.objRel he hobj (fun _ _ => rfl)⟩
theorem St.move (st : St C B Bs μ H w) {r : Nat} {l : Loc} (hr : μ r = some l) (hk : l.blk = true) {e sz off cap : Nat} {cs cs' : List PV} (ho : H[r]? = some (.cells e cs (some sz) false)) (hcap : off + cap ≤ l.cap) (hlen : cs'.length ≤ cap * sz)
    (hget : ∀ (i : Nat) (p : PV), cs'[i]? = some p → cs[off * sz + i]? = some p) :
    St C B Bs (updMu μ H.length ⟨l.g, l.o + off * sz, cap, sz, true⟩) (H.set r .dead ++ [.cells e cs' (some sz) false]) w ∧ Ext μ H w (updMu μ H.length ⟨l.g, l.o + off * sz, cap, sz, true⟩) (H.set r .dead ++ [.cells e cs' (some sz) false]) w := by
  have hrl := st.lt hr
  obtain ⟨o, ho', hobj⟩ := st.obj r l hr
  rw [ho] at ho'
  cases ho'
  have hnew : (H.set r .dead ++ [.cells e cs' (some sz) false])[H.length]? = some (.cells e cs' (some sz) false) := by
    rw [List.getElem?_append_right (by simp)]; simp
  have hold : ∀ r', r' < H.length → r' ≠ r → (H.set r .dead ++ [.cells e cs' (some sz) false])[r']? = H[r']? := fun r' h1 h2 => by
    rw [List.getElem?_append_left (by simpa using h1), List.getElem?_set_ne (Ne.symm h2)]
  have hdead : (H.set r .dead ++ [.cells e cs' (some sz) false])[r]? = some .dead := by
    rw [List.getElem?_append_left (by simpa using hrl)]; simp [hrl]
  have key : ∀ (r1 : Nat) (l1 : Loc) (o1 : HO), updMu μ H.length ⟨l.g, l.o + off * sz, cap, sz, true⟩ r1 = some l1 → (H.set r .dead ++ [.cells e cs' (some sz) false])[r1]? = some o1 → live o1 = true → l1.blk = true →
      (r1 = H.length ∧ l1.g = l.g) ∨ (r1 ≠ r ∧ μ r1 = some l1 ∧ H[r1]? = some o1) := by
    intro r1 l1 o1 h1 h2 h3 h4
    by_cases e1 : r1 = H.length
    · subst e1
      rw [updMu_self] at h1
      cases h1
      exact .inl ⟨rfl, rfl⟩
    · rw [updMu_other _ _ e1] at h1
      by_cases e2 : r1 = r
      · subst e2
        rw [hdead] at h2
        cases h2
        cases h3
      · rw [hold r1 (st.lt h1) e2] at h2
        exact .inr ⟨e2, h1, h2⟩
  have he : Ext μ H w (updMu μ H.length ⟨l.g, l.o + off * sz, cap, sz, true⟩) (H.set r .dead ++ [.cells e cs' (some sz) false]) w := by
    refine ⟨.refl _ _, fun r' l' h => ?_, fun b hb => .inl ?_⟩
    · rw [updMu_other]
      · exact h
      · have := st.lt h
        omega
    · obtain ⟨r', l', o', h1, h2, h3, h4, h5⟩ := hb
      rcases key r' l' o' h1 h4 (live_of_writable h5) h2 with ⟨rfl, hg⟩ | ⟨_, h6, h7⟩
      · exact ⟨r, l, _, hr, hk, hg.symm.trans h3, ho, rfl⟩
      · exact ⟨r', l', o', h6, h2, h3, h7, h5⟩
  refine ⟨⟨fun r' l' h => ?_, fun r1 r2 l1 l2 o1 o2 h1 h2 h3 h4 hl1 hl2 hk1 hk2 hg => ?_, fun r1 l1 o1 h1 h2 hl1 hk1 => ?_, st.bs, st.low, fun n e cs hn => st.rel he (st.glob n e cs hn)⟩, he⟩
  · by_cases e1 : r' = H.length
    · subst e1
      rw [updMu_self] at h
      cases h
      refine ⟨_, hnew, ?_⟩
      cases hobj with
      | @row _ _ _ _ _ cur hk hs hz h0 hh hl hb hc =>
        refine .row rfl rfl hz h0 hh hlen ?_ (fun i p hp => ?_)
        · have := Nat.mul_le_mul_right sz hcap
          rw [Nat.add_mul] at this
          simp only
          omega
        · obtain ⟨u, h1, h2, h3⟩ := hc _ p (hget i p hp)
          exact ⟨u, by simp only; rw [Nat.add_assoc]; exact h1, h2, st.rel he h3⟩
      | row0 hk' => rw [hk] at hk'; cases hk'
    · rw [updMu_other _ _ e1] at h
      by_cases e2 : r' = r
      · subst e2
        exact ⟨.dead, hdead, .dead⟩
      · obtain ⟨o', ho', hobj'⟩ := st.obj r' l' h
        exact ⟨o', by rw [hold r' (st.lt h) e2]; exact ho', st.objRel he hobj' (fun _ _ => rfl)⟩
  · rcases key r1 l1 o1 h1 h3 hl1 hk1 with ⟨rfl, g1⟩ | ⟨n1, a1, b1⟩ <;> rcases key r2 l2 o2 h2 h4 hl2 hk2 with ⟨rfl, g2⟩ | ⟨n2, a2, b2⟩
    · rfl
    · exact absurd (st.inj r2 r l2 l o2 _ a2 hr b2 ho hl2 rfl hk2 hk (by rw [← hg, g1])) n2
    · exact absurd (st.inj r1 r l1 l o1 _ a1 hr b1 ho hl1 rfl hk1 hk (by rw [hg, g2])) n1
    · exact st.inj r1 r2 l1 l2 o1 o2 a1 a2 b1 b2 hl1 hl2 hk1 hk2 hg
  · rcases key r1 l1 o1 h1 h2 hl1 hk1 with ⟨rfl, g1⟩ | ⟨n1, a1, b1⟩
    · rw [g1]; exact st.base r l _ hr ho rfl hk
    · exact st.base r1 l1 o1 a1 b1 hl1 hk1
end
end Go.PI

end
section
/- The pure interpreter and its simulation, part 14. -/
set_option linter.unusedSimpArgs false
set_option linter.unusedVariables false
namespace Go.PI
section
variable {C : Cfg} {w w' : World} {B : Nat → Nat → Prop} {Bs : Nat} {μ : Mu} {H Hb : List HO} {a : Act}

theorem zero_info {e : Nat} {z : List PV} {b : Nat} (hz : zeroP C e = some z) : ∃ i zv, C.P.info? e = some i ∧ i.zero = some zv ∧ z = zv.cells.toList.map PV.s ∧ zv.cells.toList.all scal = true := by
  unfold zeroP zeroV at hz
  split at hz
  · rename_i cs hc
    split at hz
    · rename_i ha
      cases hz
      obtain ⟨zv, hzv, rfl⟩ := Option.map_eq_some_iff.1 hc
      obtain ⟨i, hi, hiz⟩ := Option.bind_eq_some_iff.1 hzv
      exact ⟨i, zv, hi, hiz, rfl, ha⟩
    · cases hz
  · cases hz

/-- A new block takes what there was and what is appended. -/
theorem sim_grow (st : St C B Bs μ H w) {t tx ty e sz : Nat} {i : TypeInfo} {z : Value} {base : Option Addr} {n m sCap : Nat} {cs new : List PV} {olds news : List Value} {x : Value}
    (ht : C.P.underlying t = some (.slice e)) (hi : C.P.info? e = some i) (hz : i.zero = some z) (hzs : z.cells.size = sz) (hsz : i.size = sz) (h0 : 0 < sz)
    (hold : (Builtin.firstCells i.size n (.slice base n sCap)).run C.P w.drew = .ok olds.toArray w.drew) (hs : ASrc C.P i tx x m news w) (hsc : n ≤ sCap) (hg : sCap < n + m) (hr : n + m ≤ room) (hb : (n + m) * i.bytes ≤ room)
    (ho : RelL w (Bn B Bs μ H w) μ cs olds) (hn : RelL w (Bn B Bs μ H w) μ new news) (h1 : ∀ p ∈ cs, isCell p = true) (h2 : ∀ p ∈ new, isCell p = true) (hcl : cs.length = n * sz) (hnl : new.length = m * sz) :
    ∃ u w' μ', (Builtin.append_ #[t, tx] ty #[.slice base n sCap, x]).run C.P w = .ok u w' ∧ St C B Bs μ' (H ++ [.cells e (cs ++ new) (some sz) false]) w' ∧ Ext μ H w μ' (H ++ [.cells e (cs ++ new) (some sz) false]) w' ∧
      Rel w' (Bn B Bs μ' (H ++ [.cells e (cs ++ new) (some sz) false]) w') μ' (.row H.length 0 (n + m)) u := by
  have hrun := run_app_grow (ty := ty) ht hi hz hold hs hsc hg hr hb
  have hge := grownCap_ge w (n + m) sCap e
  have hszo : szOf C e = some sz := by simp [szOf, hi, hsz]
  obtain ⟨st1, he1⟩ := st.world (w' := w.drew) ⟨rfl, rfl, rfl, Nat.le_refl _, fun _ _ _ => rfl, fun _ L h => ⟨L, h⟩⟩
  have st2 := st1.grow [.cells e (cs ++ new) (some sz) false]
  have he2 := st1.ext_grow [.cells e (cs ++ new) (some sz) false]
  have hm : μ H.length = none := by
    rcases h : μ H.length with _ | l
    · rfl
    · have := st.lt h; omega
  have hnew : (H ++ [.cells e (cs ++ new) (some sz) false])[H.length]? = some (.cells e (cs ++ new) (some sz) false) := by simp
  generalize hcap : grownCap w (n + m) sCap e = cap at hrun hge
  have hrl : RelL w.drew (Bn B Bs μ (H ++ [.cells e (cs ++ new) (some sz) false]) w.drew) μ (cs ++ new) (olds ++ news) := st1.relL he2 (st.relL he1 (ho.append hn))
  have hmul : (n + m) * sz ≤ cap * sz := Nat.mul_le_mul_right _ hge
  have hla : (cs ++ new).length = (n + m) * sz := by rw [List.length_append, hcl, hnl, Nat.add_mul]
  obtain ⟨st3, he3⟩ := st2.allocRow hm (cap := cap) (cur := (olds ++ news).toArray ++ Builtin.zeroCells z.cells (cap - (n + m))) hnew hrl (fun j u hu => by
      rw [Array.getElem?_append_left (by simpa using (List.getElem?_eq_some_iff.1 hu).1)]
      simpa using hu) (fun p hp => by
      rcases List.mem_append.1 hp with hp | hp
      · exact h1 p hp
      · exact h2 p hp) hszo h0 (by rw [hla]; exact hmul) (by
      have e1 : (Builtin.zeroCells z.cells (cap - (n + m))).size = (cap - (n + m)) * sz := by simp [Builtin.zeroCells, hzs]
      have e2 : (olds ++ news).toArray.size = (n + m) * sz := by rw [← hla, ← hrl.1]; simp
      rw [Array.size_append, e1, e2, ← Nat.add_mul]
      exact Nat.mul_le_mul_right _ (by omega))
  refine ⟨_, _, _, hrun, st3, (he1.trans he2).trans he3, ?_⟩
  have := Rel.row (w := w.drew.alloc (.cells ((olds ++ news).toArray ++ Builtin.zeroCells z.cells (cap - (n + m))) e)) (B := Bn B Bs (updMu μ H.length ⟨w.drew.heap.size, 0, cap, sz, true⟩) (H ++ [.cells e (cs ++ new) (some sz) false]) (w.drew.alloc (.cells ((olds ++ news).toArray ++ Builtin.zeroCells z.cells (cap - (n + m))) e))) (r := H.length) (off := 0) (len := n + m) (l := ⟨w.drew.heap.size, 0, cap, sz, true⟩) (updMu_self μ H.length _) rfl (by simp; omega)
  simpa using this

theorem run_olds {P : Program} {i : TypeInfo} {n c : Nat} {A : Option Addr} {olds : List Value} (hl : olds.length = n * i.size) (had : 0 < n → ∃ ad, A = some ad ∧ ad.spot = none ∧ ∀ j v, olds[j]? = some v → w.cell? (ad.add j) = some v) :
    (Builtin.firstCells i.size n (.slice A n c)).run P w = .ok olds.toArray w := by
  rcases Nat.eq_zero_or_pos n with h0 | h0
  · subst h0
    have : olds = [] := List.eq_nil_of_length_eq_zero (by rw [hl]; simp)
    subst this
    cases A with
    | none => simp [Builtin.firstCells]
    | some ad => exact run_firstCells_some w i.size 0 ad 0 c [] (by simp) (fun j v hv => by simp at hv)
  · obtain ⟨ad, rfl, _, hc⟩ := had h0
    exact run_firstCells_some w i.size n ad n c olds hl hc
theorem run_keep {P : Program} {base : Option Addr} {k : Nat} (w : World) : keepAt P base k [] w = .ok () w := by
  cases base <;> simp [keepAt, storeCells]
theorem app_exec {o : Oper} {c : Call} {w : World} {r : Result Value} (ho : o.op = .call c) (hc : c.callee = .builtin .append) (h : (Builtin.append_ c.argTypes o.type (c.args.map a.eval)).run C.P w = r) :
    (execOp a.eval o).run C.P w = r.andThen fun v w' => .ok (.value v) w' := by
  simp only [execOp, ho, resolve, hc, Sem.run_bind, Sem.run_pure, Result.andThen_ok, invoke, builtin, h]

theorem slOf_zero {p : PV} {e n : Nat} {cs : List PV} {ux : Value} (hr : Rel w B μ p ux) (h : slOf H p = some (e, n, cs)) (hn : n = 0) : cs.length = 0 := by
  subst hn
  unfold slOf at h
  split at h
  · cases h; rfl
  · cases h
    cases hr with
    | lst0 => rfl
    | lst us hn => omega
  · split at h
    · split at h
      · cases h; simp
      · cases h
    · cases h
  · cases h
/-- A number for a row that has no block. -/
theorem St.name0 (st : St C B Bs μ H w) {r e sz : Nat} (hr : μ r = none) (ho : H[r]? = some (.cells e [] (some sz) false)) :
    St C B Bs (updMu μ r ⟨0, 0, 0, sz, false⟩) H w ∧ Ext μ H w (updMu μ r ⟨0, 0, 0, sz, false⟩) H w := by
  have key : ∀ (r1 : Nat) (l1 : Loc), updMu μ r ⟨0, 0, 0, sz, false⟩ r1 = some l1 → l1.blk = true → μ r1 = some l1 := by
    intro r1 l1 h hk
    by_cases e1 : r1 = r
    · subst e1
      rw [updMu_self] at h
      cases h
      cases hk
    · rw [updMu_other _ _ e1] at h; exact h
  have he : Ext μ H w (updMu μ r ⟨0, 0, 0, sz, false⟩) H w := ⟨.refl _ _, updMu_ext hr _, fun b hb => by
    obtain ⟨r', l', o', h1, h2, h3, h4, h5⟩ := hb
    exact .inl ⟨r', l', o', key r' l' h1 h2, h2, h3, h4, h5⟩⟩
  refine ⟨⟨fun r' l' h => ?_, fun r1 r2 l1 l2 o1 o2 h1 h2 h3 h4 hl1 hl2 hk1 hk2 => st.inj r1 r2 l1 l2 o1 o2 (key _ _ h1 hk1) (key _ _ h2 hk2) h3 h4 hl1 hl2 hk1 hk2,
    fun r1 l1 o1 h1 h2 hl1 hk1 => st.base r1 l1 o1 (key _ _ h1 hk1) h2 hl1 hk1, st.bs, st.low, fun n e cs hn => st.rel he (st.glob n e cs hn)⟩, he⟩
  by_cases e1 : r' = r
  · subst e1
    rw [updMu_self] at h
    cases h
    exact ⟨_, ho, .row0 rfl rfl rfl⟩
  · rw [updMu_other _ _ e1] at h
    obtain ⟨o, ho', hobj⟩ := st.obj r' l' h
    exact ⟨o, ho', st.objRel he hobj (fun _ _ => rfl)⟩
theorem St.fresh (st : St C B Bs μ H w) {r : Nat} (h : H.length ≤ r) : μ r = none := by
  rcases hm : μ r with _ | l
  · rfl
  · have := st.lt hm; omega
theorem Rel.rowInv {r off n : Nat} {v : Value} (h : Rel w B μ (.row r off n) v) :
    (∃ l, μ r = some l ∧ l.blk = true ∧ off + n ≤ l.cap ∧ v = .slice (some ⟨l.g, l.o + off * l.sz, none⟩) n (l.cap - off)) ∨ (∃ l A, μ r = some l ∧ n = 0 ∧ off = l.cap ∧ v = .slice A 0 0) := by
  cases h with
  | row h hk hle => exact .inl ⟨_, h, hk, hle, rfl⟩
  | row0 h he => exact .inr ⟨_, _, h, rfl, he, rfl⟩
/-- append. -/
theorem sim_append (st : St C B Bs μ H w) {o : Oper} {c : Call} {s x v : PV} {us ux : Value} {H' : List HO} (ho : o.op = .call c) (hc : c.callee = .builtin .append)
    (ha0 : (c.args.map a.eval)[0]? = some us) (ha1 : (c.args.map a.eval)[1]? = some ux) (hs : Rel w (Bn B Bs μ H w) μ s us) (hx : Rel w (Bn B Bs μ H w) μ x ux)
    (h : appendP C c.argTypes s x H = some (v, H')) : MSim C B Bs a o H μ w v H' := by
  unfold appendP at h
  split at h
  · rename_i t0 ht0
    split at h
    · rename_i e he
      split at h
      · rename_i sz b z hsz hb hz
        split at h
        · rename_i hcz
          obtain ⟨h0, hzl⟩ := hcz
          obtain ⟨i, zv, hi, hiz, rfl, hzs⟩ := zero_info (b := b) hz
          have hisz : i.size = sz := by unfold szOf at hsz; rw [hi] at hsz; simpa using hsz
          have hib : i.bytes = b := by unfold bytesOf at hb; rw [hi] at hb; simpa using hb
          have hzsz : zv.cells.size = sz := by simpa using hzl
          simp only at h
          split at h
          · rename_i m new hys
            -- what is appended
            obtain ⟨tx, htx, news, hsrc, hnr, hn1, h0len⟩ : ∃ tx, c.argTypes[1]? = some tx ∧ ∃ news, (new.length = m * sz → m * b ≤ room → ASrc C.P i tx ux m news w) ∧ RelL w (Bn B Bs μ H w) μ new news ∧ (∀ p ∈ new, isCell p = true) ∧ (m = 0 → new.length = 0) := by
              split at hys
              · rename_i k hk
                obtain ⟨tx, htx, hkx⟩ := Option.bind_eq_some_iff.1 hk
                split at hys
                · rename_i mm
                  split at hys
                  · rename_i hmm
                    cases hys
                    rw [hx.sInv]
                    obtain ⟨r1, r2⟩ := scal_cells (w := w) (μ := μ) (B' := Bn B Bs μ H w) hzs
                    refine ⟨tx, htx, _, fun _ hmb => .inr ⟨k, zv, kind_under hkx, by rw [Int.toNat_of_nonneg hmm.1], hmm.2, by rw [hib]; exact hmb, hiz, by omega, by omega, rfl⟩, r1.flatten, repl_isCell r2, fun hm0 => by rw [repl_length, hm0, Nat.zero_mul]⟩
                  · cases hys
                · cases hys
              · split at hys
                · rename_i hel
                  obtain ⟨e', he'⟩ := Option.isSome_iff_exists.1 hel
                  obtain ⟨tx, htx, hex⟩ := Option.bind_eq_some_iff.1 he'
                  obtain ⟨⟨e1, m1, cs1⟩, hsl, heq⟩ := Option.map_eq_some_iff.1 hys
                  cases heq
                  obtain ⟨A, cc, xs, rfl, hmc, hrl, h1, had⟩ := slOf_rel st hx hsl
                  refine ⟨tx, htx, xs, fun hl _ => .inl ?_, hrl, h1, slOf_zero hx hsl⟩
                  have hxl : xs.length = m1 * i.size := by rw [hrl.1, hisz]; exact hl
                  rcases Nat.eq_zero_or_pos m1 with hm0 | hm0
                  · subst hm0
                    have : xs = [] := List.eq_nil_of_length_eq_zero (by rw [hxl]; simp)
                    subst this
                    cases A with
                    | none => exact Src.ofNil w (elem_under hex) cc
                    | some ad => exact Src.ofSlice w (elem_under hex) ad 0 cc [] (by simp) (fun j u hj => by simp at hj) (fun u hu => by cases hu)
                  · obtain ⟨ad, rfl, hsp, hcell⟩ := had hm0
                    exact Src.ofSlice w (elem_under hex) ad m1 cc xs hxl hcell (relL_one hrl h1)
                · cases hys
            have fin : ∀ {u : Value} {w' : World}, (Builtin.append_ #[t0, tx] o.type #[us, ux]).run C.P w = .ok u w' → (execOp a.eval o).run C.P w = .ok (.value u) w' := fun {u w'} hr => by
              have := app_exec (a := a) (w := w) (r := .ok u w') ho hc (by rw [append_norm ht0 htx ha0 ha1]; exact hr)
              rw [this]
              rfl
            split at h
            · -- nil
              have hus := hs.sInv
              subst hus
              split at h
              · rename_i hm0
                cases h
                subst hm0
                by_cases hnn : new.length = 0
                · have hr := run_app_room (w := w) (ty := o.type) (base := none) (sLen := 0) (sCap := 0) (elem_under he) hi (hsrc (by simpa using hnn) (by simp [room])) (Nat.le_refl _)
                  exact ⟨_, _, w, μ, fin hr, .inl rfl, st, .refl _ _ _, .s rfl⟩
                · exact absurd (h0len rfl) hnn
              · rename_i hm0
                split at h
                · rename_i hcc
                  cases h
                  obtain ⟨u, w', μ', h1, h2, h3, h4⟩ := sim_grow (ty := o.type) st (cs := []) (olds := []) (n := 0) (sCap := 0) (base := none) (elem_under he) hi hiz hzsz hisz h0 (by simp [Builtin.firstCells]) (hsrc hcc.2.2 hcc.1) (Nat.le_refl _) (by omega) (by omega) (by rw [Nat.zero_add, hib]; exact hcc.1) .nil hnr (fun p hp => by cases hp) hn1 (by simp) hcc.2.2
                  simp only [List.nil_append, Nat.zero_add] at h2 h3 h4
                  exact ⟨_, u, w', μ', fin h1, .inl rfl, h2, h3, h4⟩
                · cases h
            · -- a slice whose capacity is its length
              rename_i e' n cs
              split at h
              · obtain ⟨A, c', olds, rfl, hcn, hrl, h1, had, hcap⟩ : ∃ A c' olds, us = .slice A n c' ∧ n ≤ c' ∧ RelL w (Bn B Bs μ H w) μ cs olds ∧ (∀ p ∈ cs, isCell p = true) ∧ (0 < n → ∃ ad, A = some ad ∧ ad.spot = none ∧ ∀ i v, olds[i]? = some v → w.cell? (ad.add i) = some v) ∧ c' = n := by
                  cases hs with
                  | lst0 hx => exact ⟨_, _, [], rfl, Nat.zero_le _, .nil, fun p hp => by simp at hp, fun h => absurd h (by omega), hx rfl⟩
                  | lst xs hn hcc hx hb hsp hl hcell h1 hr => exact ⟨_, _, xs, rfl, hcc, RelL.up ⟨hl, hr⟩, h1, fun _ => ⟨_, rfl, hsp, hcell⟩, hx rfl⟩
                subst hcap
                split at h
                · rename_i hm0
                  cases h
                  subst hm0
                  have hnews : news = [] := List.eq_nil_of_length_eq_zero (by rw [hnr.1]; exact h0len rfl)
                  subst hnews
                  have hr := run_app_room (w := w) (ty := o.type) (base := A) (sLen := c') (sCap := c') (elem_under he) hi (hsrc (by rw [h0len rfl]; simp) (by simp [room])) (Nat.le_refl _)
                  rw [run_keep] at hr
                  exact ⟨_, _, w, μ, fin hr, .inl rfl, st, .refl _ _ _, hs⟩
                · rename_i hm0
                  split at h
                  · rename_i hcc
                    obtain ⟨g1, g2, g3, g4⟩ := hcc
                    cases h
                    have hmb : m * b ≤ room := Nat.le_trans (Nat.mul_le_mul_right _ (Nat.le_add_left m c')) g1
                    have hold := run_olds (P := C.P) (w := w.drew) (i := i) (n := c') (c := c') (A := A) (olds := olds) (by rw [hrl.1, hisz]; exact g4) (by simpa using had)
                    obtain ⟨u, w', μ', k1, k2, k3, k4⟩ := sim_grow (ty := o.type) st (cs := cs) (olds := olds) (n := c') (sCap := c') (base := A) (elem_under he) hi hiz hzsz hisz h0 hold (hsrc g3 hmb) (Nat.le_refl _) (by omega) g2 (by rw [hib]; exact g1) hrl hnr h1 hn1 g4 g3
                    exact ⟨_, u, w', μ', fin k1, .inl rfl, k2, k3, k4⟩
                  · cases h
              · cases h
            · -- a row
              rename_i r off n
              split at h
              · rename_i e' cs0 sz' e1 n1 cs hr0 hsl
                split at h
                · rename_i hcc
                  obtain ⟨rfl, rfl, g1, g2, g3, g4⟩ := hcc
                  cases h
                  have hmb : m * b ≤ room := Nat.le_trans (Nat.mul_le_mul_right _ (Nat.le_add_left m n)) g1
                  have hsl' := hsl
                  simp only [slOf, hr0] at hsl'
                  split at hsl'
                  · rename_i hfit
                    cases hsl'
                    obtain ⟨A, c', olds, rfl, hcn, hrl, h1, had⟩ := slOf_rel st hs hsl
                    have hHl : ∀ new', (H.set r .dead ++ [new'] : List HO) = (H ++ [new']).set r .dead := fun new' => by
                      rw [List.set_append_left]
                      exact (List.getElem?_eq_some_iff.1 hr0).1
                    by_cases hroom : n + m ≤ c'
                    · -- there is room
                      have hA : ASrc C.P i tx ux m news w := hsrc g3 hmb
                      have hr1 := run_app_room (w := w) (ty := o.type) (base := A) (sLen := n) (sCap := c') (elem_under he) hi hA hroom
                      rcases hs.rowInv with ⟨l, hmu, hbk, hle, hv⟩ | ⟨l, A', hmu, h0n, hoff, hv⟩
                      · injection hv with hA' _ hc'
                        subst hA'
                        subst hc'
                        have hle2 : (off + n) * sz' ≤ cs0.length := hfit
                        obtain ⟨ob, hob, hobj⟩ := st.obj r l hmu
                        rw [hr0] at hob
                        cases hob
                        have hlsz : l.sz = sz' := by
                          cases hobj with
                          | row hk hs => exact hs
                          | row0 hk hs => exact hs
                        have hgetc : ∀ (j : Nat) (p : PV), ((cs0.drop (off * sz')).take (n * sz'))[j]? = some p → cs0[off * sz' + j]? = some p ∧ j < n * sz' := fun j p hp => by
                          rw [List.getElem?_take] at hp
                          split at hp
                          · rw [List.getElem?_drop] at hp; exact ⟨hp, ‹_›⟩
                          · cases hp
                        have hnl : news.length = m * sz' := by rw [hnr.1]; exact g3
                        have hlast : Rel w (Bn B Bs μ H w) μ (.row r off n) (.slice (some ⟨l.g, l.o + off * l.sz, none⟩) n (l.cap - off)) := hs
                        have hval : ∀ {w2 : World} {H2 : List HO} {B2 : Nat → Nat → Prop}, Rel w2 B2 (updMu μ H.length ⟨l.g, l.o + off * sz', l.cap - off, sz', true⟩) (.row H.length 0 (n + m)) (.slice (some ⟨l.g, l.o + off * l.sz, none⟩) (n + m) (l.cap - off)) := fun {w2 H2 B2} => by
                          have := Rel.row (w := w2) (B := B2) (r := H.length) (off := 0) (len := n + m) (l := ⟨l.g, l.o + off * sz', l.cap - off, sz', true⟩) (updMu_self μ H.length _) rfl (by simp only [Nat.zero_add]; exact hroom)
                          rw [hlsz]
                          simpa using this
                        rcases Nat.eq_zero_or_pos m with hm0 | hm0
                        · subst hm0
                          have hnews : news = [] := List.eq_nil_of_length_eq_zero (by rw [hnl]; simp)
                          have hnew : new = [] := List.eq_nil_of_length_eq_zero (by rw [g3]; simp)
                          subst hnews
                          subst hnew
                          rw [run_keep] at hr1
                          obtain ⟨k1, k2⟩ := st.move hmu hbk (off := off) (cap := l.cap - off) (cs' := (cs0.drop (off * sz')).take (n * sz') ++ []) hr0 (by omega) (by rw [List.append_nil, g4]; exact Nat.mul_le_mul_right _ hcn) (fun j p hp => by rw [List.append_nil] at hp; exact (hgetc j p hp).1)
                          exact ⟨_, _, w, _, fin hr1, .inl rfl, k1, k2, hval (H2 := [])⟩
                        · have hpos : 0 < new.length := by rw [g3]; exact Nat.mul_pos hm0 h0
                          have hcapm : (off + n) * sz' + new.length ≤ l.cap * sz' := by
                            rw [g3, ← Nat.add_mul]
                            exact Nat.mul_le_mul_right _ (by omega)
                          obtain ⟨w', k1, k2, k3⟩ := sim_cells st hmu hr0 (off := (off + n) * sz') hnr hn1 (relL_one hnr hn1) hpos hle2 (.inr ⟨sz', rfl, hlsz, hcapm⟩)
                          have hkeep : keepAt C.P (some ⟨l.g, l.o + off * l.sz, none⟩) (n * i.size) news w = .ok () w' := by
                            simp only [keepAt]
                            rw [add_plain', hisz, hlsz, Nat.add_assoc, ← Nat.add_mul]
                            exact k1
                          rw [hkeep] at hr1
                          have hset : (H.set r (.cells e' (splice cs0 ((off + n) * sz') new) (some sz') false))[r]? = some (.cells e' (splice cs0 ((off + n) * sz') new) (some sz') false) := by simp [st.lt hmu]
                          obtain ⟨k4, k5⟩ := k2.move hmu hbk (off := off) (cap := l.cap - off) (cs' := (cs0.drop (off * sz')).take (n * sz') ++ new) hset (by omega) (by rw [List.length_append, g4, g3, ← Nat.add_mul]; exact Nat.mul_le_mul_right _ hroom) (fun j p hp => by
                            rw [splice_get _ _ _ _ hle2]
                            rcases Nat.lt_or_ge j ((cs0.drop (off * sz')).take (n * sz')).length with hj | hj
                            · rw [List.getElem?_append_left hj] at hp
                              obtain ⟨q1, q2⟩ := hgetc j p hp
                              rw [if_pos (by rw [Nat.add_mul]; omega)]
                              exact q1
                            · rw [List.getElem?_append_right hj, g4] at hp
                              rw [g4] at hj
                              have hjl := (List.getElem?_eq_some_iff.1 hp).1
                              rw [if_neg (by rw [Nat.add_mul]; omega), if_pos (by rw [Nat.add_mul]; omega)]
                              rw [show off * sz' + j - (off + n) * sz' = j - n * sz' from by rw [Nat.add_mul]; omega]
                              exact hp)
                          simp only [List.length_set, List.set_set] at k4 k5
                          exact ⟨_, _, w', _, fin hr1, .inl rfl, k4, k3.trans k5, hval (H2 := [])⟩
                      · subst h0n
                        injection hv with hA' _ hc'
                        subst hA'
                        subst hc'
                        have hm0 : m = 0 := by omega
                        subst hm0
                        have hnews : news = [] := List.eq_nil_of_length_eq_zero (by rw [hnr.1, g3]; simp)
                        subst hnews
                        rw [run_keep] at hr1
                        have hnil : (cs0.drop (off * sz')).take (0 * sz') ++ new = [] := List.eq_nil_of_length_eq_zero (by rw [List.length_append, g4, g3]; simp)
                        rw [hnil]
                        obtain ⟨k1, k2⟩ := st.kill r
                        have k3 := k1.grow [.cells e' [] (some sz') false]
                        have k4 := k1.ext_grow [.cells e' [] (some sz') false]
                        obtain ⟨k5, k6⟩ := k3.name0 (r := H.length) (e := e') (sz := sz') (st.fresh (Nat.le_refl _)) (by rw [List.getElem?_append_right (by simp)]; simp)
                        exact ⟨_, _, w, _, fin hr1, .inl rfl, k5, (k2.trans k4).trans k6, .row0 (updMu_self _ _ _) rfl⟩
                    · -- there is none
                      have hold := run_olds (P := C.P) (w := w.drew) (i := i) (n := n) (c := c') (A := A) (olds := olds) (by rw [hrl.1, hisz]; exact g4) (by simpa using had)
                      obtain ⟨u, w', μ', k1, k2, k3, k4⟩ := sim_grow (ty := o.type) st (n := n) (sCap := c') (base := A) (elem_under he) hi hiz hzsz hisz h0 hold (hsrc g3 hmb) hcn (by omega) g2 (by rw [hib]; exact g1) hrl hnr h1 hn1 g4 g3
                      obtain ⟨k5, k6⟩ := k2.kill r
                      rw [← hHl] at k5 k6
                      refine ⟨_, u, w', μ', fin k1, .inl rfl, k5, k3.trans k6, ?_⟩
                      have := k2.rel k6 k4
                      exact this
                  · cases hsl'
                · cases h
              · cases h
            · cases h
          · cases h
        · cases h
      · cases h
    · cases h
  · cases h
end
end Go.PI

end
section
/- The pure interpreter and its simulation, part 15. -/
set_option linter.unusedSimpArgs false
set_option linter.unusedVariables false
namespace Go.PI
section
variable {C : Cfg} {w w' : World} {B : Nat → Nat → Prop} {Bs : Nat} {μ : Mu} {H Hb : List HO} {a : Act}

theorem splice_nil (cs : List PV) (off : Nat) : splice cs off [] = cs := by
  unfold splice
  simp
theorem set_same {α : Type} {l : List α} {i : Nat} {x : α} (h : l[i]? = some x) : l.set i x = l := by
  apply List.ext_getElem?
  intro j
  rw [List.getElem?_set]
  split
  · rename_i hij
    subst hij
    split
    · exact h.symm
    · rw [List.getElem?_eq_none (by omega)]
  · rfl
theorem sim_copy (st : St C B Bs μ H w) {o : Oper} {c : Call} {d x v : PV} {ud ux : Value} {H' : List HO} (ho : o.op = .call c) (hc : c.callee = .builtin .copy)
    (ha0 : (c.args.map a.eval)[0]? = some ud) (ha1 : (c.args.map a.eval)[1]? = some ux) (hd : Rel w (Bn B Bs μ H w) μ d ud) (hx : Rel w (Bn B Bs μ H w) μ x ux)
    (h : copyP C c.argTypes d x H = some (v, H')) : MSim C B Bs a o H μ w v H' := by
  unfold copyP at h
  split at h
  · rename_i r off n
    split at h
    · rename_i e cs sz e' m new e0 hr0 hsl he0
      split at h
      · rename_i hcc
        obtain ⟨hsz, _, hnl, hfit⟩ := hcc
        cases h
        obtain ⟨t0, ht0, hel⟩ := Option.bind_eq_some_iff.1 he0
        obtain ⟨A, cx, xs, rfl, hmc, hrl, h1, had⟩ := slOf_rel st hx hsl
        have run : ∀ {base : Option Addr} {c' : Nat} {w' : World}, ud = .slice base n c' → keepAt C.P base 0 (xs.take (min m n * sz)) w = .ok () w' → (execOp a.eval o).run C.P w = .ok (.value (goInt (min m n : Nat))) w' := by
          intro base c' w' hud hk
          subst hud
          have hf : (Builtin.firstCells sz (Nat.min m n) (.slice A m cx)).run C.P w = .ok (xs.take (min m n * sz)).toArray w := by
            rcases Nat.eq_zero_or_pos (min m n) with hk0 | hk0
            · have e1 : Nat.min m n = 0 := hk0
              rw [e1, hk0]
              cases A with
              | none => simp [Builtin.firstCells]
              | some ad => simpa using run_firstCells_some w sz 0 ad m cx [] (by simp) (fun j v hv => by simp at hv)
            · obtain ⟨ad, rfl, hsp, hcell⟩ := had (by omega)
              refine run_firstCells_some w sz (min m n) ad m cx (xs.take (min m n * sz)) ?_ (fun j v hv => hcell j v ?_)
              · rw [List.length_take, hrl.1, hnl]
                have := Nat.mul_le_mul_right sz (Nat.min_le_left m n)
                omega
              · rw [List.getElem?_take] at hv
                split at hv
                · exact hv
                · cases hv
          have hb : (Builtin.copy_ c.argTypes o.type (c.args.map a.eval)).run C.P w = .ok (goInt (min m n : Nat)) w' := by
            unfold Builtin.copy_
            simp only [ht0, ha0, ha1, Sem.run_bind, run_underlying (elem_under hel), Result.andThen_ok, Builtin.lenOf, Sem.run_pure, run_sizeOf hsz, hf]
            cases base with
            | none => simp only [keepAt] at hk; cases hk; simp [goInt]
            | some ad =>
              simp only [keepAt, Addr.add_zero'] at hk
              simp [hk, goInt]
          simp only [execOp, ho, resolve, hc, Sem.run_bind, Sem.run_pure, Result.andThen_ok, invoke, builtin, hb]
        rcases Nat.eq_zero_or_pos (min m n * sz) with hk0 | hk0
        · rw [hk0, List.take_zero, splice_nil, set_same hr0]
          rw [hk0, List.take_zero] at run
          have : ∃ base c', ud = .slice base n c' := by
            rcases hd.rowInv with ⟨l, _, _, _, hv⟩ | ⟨l, A', _, h0n, _, hv⟩
            · exact ⟨_, _, hv⟩
            · subst h0n; exact ⟨_, _, hv⟩
          obtain ⟨base, c', hud⟩ := this
          exact ⟨_, _, w, μ, run hud (run_keep w), .inl rfl, st, .refl _ _ _, .s rfl⟩
        · rcases hd.rowInv with ⟨l, hmu, hbk, hle, hv⟩ | ⟨l, A', hmu, h0n, hoff, hv⟩
          · obtain ⟨ob, hob, hobj⟩ := st.obj r l hmu
            rw [hr0] at hob
            cases hob
            have hlsz : l.sz = sz := by
              cases hobj with
              | row hk hs => exact hs
              | row0 hk hs => exact hs
            have hmul := Nat.mul_le_mul_right sz (Nat.min_le_left m n)
            have hmul2 := Nat.mul_le_mul_right sz (Nat.min_le_right m n)
            have hlt : (new.take (min m n * sz)).length = min m n * sz := by rw [List.length_take, hnl]; omega
            have hrt := hrl.take (min m n * sz)
            have h1t : ∀ p ∈ new.take (min m n * sz), isCell p = true := fun p hp => h1 p (List.mem_of_mem_take hp)
            rw [Nat.add_mul] at hfit
            obtain ⟨w', k1, k2, k3⟩ := sim_cells st hmu hr0 (off := off * sz) hrt h1t (relL_one hrt h1t) (by rw [hlt]; exact hk0) (by omega) (.inl (by rw [hlt]; omega))
            refine ⟨_, _, w', μ, run hv ?_, .inl rfl, k2, k3, .s rfl⟩
            simp only [keepAt, Addr.add_zero', hlsz]
            exact k1
          · subst h0n
            simp at hk0
      · cases h
    · cases h
  · cases h

theorem sim_clear (st : St C B Bs μ H w) {o : Oper} {c : Call} {d v : PV} {ud : Value} {H' : List HO} (ho : o.op = .call c) (hc : c.callee = .builtin .clear)
    (ha0 : (c.args.map a.eval)[0]? = some ud) (hd : Rel w (Bn B Bs μ H w) μ d ud)
    (h : clearP C c.argTypes d H = some (v, H')) : MSim C B Bs a o H μ w v H' := by
  unfold clearP at h
  split at h
  · rename_i e0 he0
    obtain ⟨t0, ht0, hel⟩ := Option.bind_eq_some_iff.1 he0
    have run0 : ∀ {base : Option Addr} {c' : Nat}, ud = .slice base 0 c' → (execOp a.eval o).run C.P w = .ok (.value undef) w := by
      intro base c' hud
      subst hud
      have hb : (Builtin.clear_ c.argTypes o.type (c.args.map a.eval)).run C.P w = .ok (.tuple #[]) w := by
        unfold Builtin.clear_
        simp only [ht0, ha0, Sem.run_bind, run_underlying (elem_under hel), Result.andThen_ok]
        cases base <;> simp
      simp only [execOp, ho, resolve, hc, Sem.run_bind, Sem.run_pure, Result.andThen_ok, invoke, builtin, hb]
      rfl
    split at h
    · cases h
      have := hd.sInv
      subst this
      exact ⟨_, _, w, μ, run0 rfl, .inl rfl, st, .refl _ _ _, rel_undef⟩
    · rename_i r off n
      split at h
      · rename_i e cs sz sz0 z hr0 hsz0 hz
        split at h
        · rename_i hcc
          obtain ⟨rfl, hzl, h0, hfit⟩ := hcc
          cases h
          rcases hd.rowInv with ⟨l, hmu, hbk, hle, hv⟩ | ⟨l, A', hmu, h0n, hoff, hv⟩
          · rcases Nat.eq_zero_or_pos n with hn0 | hn0
            · subst hn0
              have : repl 0 z = [] := rfl
              rw [this, splice_nil, set_same hr0]
              exact ⟨_, _, w, μ, run0 hv, .inl rfl, st, .refl _ _ _, rel_undef⟩
            · obtain ⟨ob, hob, hobj⟩ := st.obj r l hmu
              rw [hr0] at hob
              cases hob
              have hlsz : l.sz = sz0 := by
                cases hobj with
                | row hk hs => exact hs
                | row0 hk hs => exact hs
              obtain ⟨zv, hz1, hz2, hz3⟩ := run_zero hz
              have hzs : zv.cells.size = sz0 := by rw [hz1] at hzl; simpa using hzl
              have hrel : RelL w (Bn B Bs μ H w) μ (repl n z) ((List.replicate n zv.cells.toList).flatten) := by
                unfold repl
                rw [hz1]
                exact (rel_scal_list hz2).flatten
              have hcell : ∀ p ∈ repl n z, isCell p = true := by
                intro p hp
                unfold repl at hp
                obtain ⟨l', hl', hp'⟩ := List.mem_flatten.1 hp
                rw [List.eq_of_mem_replicate hl', hz1] at hp'
                obtain ⟨v, hv', rfl⟩ := List.mem_map.1 hp'
                exact List.all_eq_true.1 hz2 v hv'
              have hln : (repl n z).length = n * sz0 := by unfold repl; simp [hzl]
              have hpos : 0 < n * sz0 := Nat.mul_pos hn0 h0
              rw [Nat.add_mul] at hfit
              obtain ⟨w', k1, k2, k3⟩ := sim_cells st hmu hr0 (off := off * sz0) hrel hcell (relL_one hrel hcell) (by omega) (by omega) (.inl (by omega))
              refine ⟨.value undef, undef, w', μ, ?_, .inl rfl, k2, k3, rel_undef⟩
              subst hv
              have hb : (Builtin.clear_ c.argTypes o.type (c.args.map a.eval)).run C.P w = .ok (.tuple #[]) w' := by
                unfold Builtin.clear_
                simp only [ht0, ha0, Sem.run_bind, run_underlying (elem_under hel), Result.andThen_ok]
                have hne : n ≠ 0 := by omega
                simp only [hne, hz3 w, Sem.run_bind, Result.andThen_ok, zeroCells_list zv.cells n (by omega), List.toList_toArray]
                rw [← hlsz] at k1
                simp [k1]
              simp only [execOp, ho, resolve, hc, Sem.run_bind, Sem.run_pure, Result.andThen_ok, invoke, builtin, hb]
              rfl
          · subst h0n
            have : repl 0 z = [] := rfl
            rw [this, splice_nil, set_same hr0]
            exact ⟨_, _, w, μ, run0 hv, .inl rfl, st, .refl _ _ _, rel_undef⟩
        · cases h
      · cases h
    · cases h
  · cases h

variable {rec : Rec}
theorem args_one {c : Call} {g : List PV} {p : PV} {B' : Nat → Nat → Prop} (h : c.args.toList.map (opnd C g) = [p]) (hx : ∀ x ∈ c.args.toList, Rel w B' μ (opnd C g x) (a.eval x)) :
    ∃ u, (c.args.map a.eval)[0]? = some u ∧ Rel w B' μ p u := by
  have hr : RelL w B' μ [p] (c.args.map a.eval).toList := by rw [← h]; exact relA hx
  obtain ⟨u, h1, h2⟩ := hr.get (i := 0) rfl
  exact ⟨u, by simpa using h1, h2⟩
theorem args_two {c : Call} {g : List PV} {p q : PV} {B' : Nat → Nat → Prop} (h : c.args.toList.map (opnd C g) = [p, q]) (hx : ∀ x ∈ c.args.toList, Rel w B' μ (opnd C g x) (a.eval x)) :
    ∃ u v, (c.args.map a.eval)[0]? = some u ∧ (c.args.map a.eval)[1]? = some v ∧ Rel w B' μ p u ∧ Rel w B' μ q v := by
  have hr : RelL w B' μ [p, q] (c.args.map a.eval).toList := by rw [← h]; exact relA hx
  obtain ⟨u, h1, h2⟩ := hr.get (i := 0) rfl
  obtain ⟨v, h3, h4⟩ := hr.get (i := 1) rfl
  exact ⟨u, v, by simpa using h1, by simpa using h3, h2, h4⟩
/-- An operation that may write, but for the call of a function value. -/
theorem mop_sim (st : St C B Bs μ H w) {o : Oper} {g : List PV} {v : PV} {H' : List HO} (h : mop C rec o g H = some (v, H'))
    (hx : ∀ x ∈ o.op.operands.toList, Rel w (Bn B Bs μ H w) μ (opnd C g x) (a.eval x)) :
    (∃ c f, o.op = .call c ∧ c.callee = .value f ∧ callV C rec (opnd C g f) (c.args.toList.map (opnd C g)) H = some (v, H')) ∨ MSim C B Bs a o H μ w v H' := by
  unfold mop at h
  split at h
  · rename_i x ho
    simp [ho, Op.operands] at hx
    cases h
    exact .inr (sim_assign st ho hx)
  · rename_i t x y ho
    simp [ho, Op.operands] at hx
    obtain ⟨H1, h1, h2⟩ := Option.map_eq_some_iff.1 h
    cases h2
    exact .inr (sim_store st ho hx.1 hx.2 h1)
  · rename_i t m k ho
    simp [ho, Op.operands] at hx
    split at h
    · rename_i e r k' he hm hk
      split at h
      · rename_i es hes
        rw [hm, hk] at hx
        split at h
        · rename_i q hq
          cases h
          exact .inr (sim_lookup st ho he hx.1 hx.2.sInv hes (.inl ⟨q, hq, rfl⟩))
        · rename_i hq
          obtain ⟨q, hz, h2⟩ := Option.map_eq_some_iff.1 h
          cases h2
          exact .inr (sim_lookup st ho he hx.1 hx.2.sInv hes (.inr ⟨hq, q, hz, rfl⟩))
      · cases h
    · cases h
  · rename_i t m k x ho
    simp [ho, Op.operands] at hx
    split at h
    · rename_i e r k' he hm hk
      split at h
      · rename_i es hes
        rw [hm, hk] at hx
        cases h
        exact .inr (sim_mapUpdate st ho he hx.1 hx.2.1.sInv hx.2.2 hes)
      · cases h
    · cases h
  · rename_i c ho
    have hxa : ∀ x ∈ c.args.toList, Rel w (Bn B Bs μ H w) μ (opnd C g x) (a.eval x) := fun x hx' => hx x (by simp [ho, Op.operands, Call.operands]; exact .inr (by simpa using hx'))
    unfold mcall at h
    split at h
    · rename_i hc
      split at h
      · rename_i s x hl
        obtain ⟨u, v, h1, h2, h3, h4⟩ := args_two hl hxa
        exact .inr (sim_append st ho hc h1 h2 h3 h4 h)
      · cases h
    · rename_i hc
      split at h
      · rename_i s x hl
        obtain ⟨u, v, h1, h2, h3, h4⟩ := args_two hl hxa
        exact .inr (sim_copy st ho hc h1 h2 h3 h4 h)
      · cases h
    · rename_i hc
      split at h
      · rename_i s hl
        obtain ⟨u, h1, h2⟩ := args_one hl hxa
        exact .inr (sim_clear st ho hc h1 h2 h)
      · cases h
    · rename_i f hc
      exact .inl ⟨c, f, ho, hc, h⟩
    · cases h
  · cases h
end
end Go.PI

end
section
/- The pure interpreter and its simulation, part 16. -/
set_option linter.unusedSimpArgs false
set_option linter.unusedVariables false
namespace Go.PI
section
variable {C : Cfg} {w w' : World} {B B' : Nat → Nat → Prop} {Bs : Nat} {μ : Mu} {H Hb : List HO} {a : Act} {g : List PV}

theorem getD_rel (h : RelL w B μ g a.tmps.toList) (t : Nat) : Rel w B μ (g.getD t undefP) (a.tmps.getD t undef) := by
  rw [List.getD_eq_getElem?_getD, Array.getD_eq_getD_getElem?]
  rcases ht : g[t]? with _ | p
  · have hge := List.getElem?_eq_none_iff.1 ht
    rw [Array.getElem?_eq_none (by have := h.1; simp at this; omega)]
    exact rel_undef
  · obtain ⟨u, hu, hr⟩ := h.get ht
    rw [Array.getElem?_toList] at hu
    rw [hu]
    exact hr
theorem opnd_rel (st : St C B Bs μ H w) (h : RelL w (Bn B Bs μ H w) μ g a.tmps.toList) (x : Operand) : Rel w (Bn B Bs μ H w) μ (opnd C g x) (a.eval x) := by
  cases x with
  | tmp t => exact getD_rel h t
  | const v =>
    simp only [opnd, ofConst, Act.eval]
    split
    · exact .s ‹_›
    · exact .any
  | global n =>
    simp only [opnd, Act.eval]
    split
    · exact st.glob _ _ _ ‹_›
    · exact .any
  | func f => exact .fn rfl rfl (fun i p u hp => by simp at hp) (fun i p u hp => by simp at hp)
theorem Rel.boolOf {p : PV} {v : Value} {b : Bool} (h : Rel w B μ p v) (hb : PI.boolOf p = some b) : v = .bool b := by
  unfold PI.boolOf at hb
  split at hb
  · cases hb; exact h.sInv
  · cases hb
theorem put_rel (h : RelL w B μ g a.tmps.toList) (d : Option Tmp) {p : PV} {v : Value} (hp : Rel w B μ p v) : RelL w B μ (setD g d p) (a.put d v).tmps.toList := by
  cases d with
  | none => exact h
  | some t =>
    simp only [setD, Act.put, Array.toList_setIfInBounds]
    exact h.set t hp
theorem wanted_rel (h : RelL w B μ g a.tmps.toList) {ops : Array Oper} {o : Oper} {b : Bool} (hb : wantedP ops o g = some b) : Region.wanted o (yielded ops a.tmps) = b := by
  unfold wantedP at hb
  unfold Region.wanted
  split at hb
  · rename_i hg
    cases hb
    simp [hg]
  · rename_i j want hg
    simp only [hg]
    split at hb
    · rename_i d hd
      have hrel := getD_rel h d
      have hyield : ∀ v, a.tmps.getD d undef = v → yielded ops a.tmps j = (match v with | .bool b => some b | _ => none) := by
        intro v hv
        unfold yielded
        simp only [hd, Option.bind_some]
        rw [Array.getD_eq_getD_getElem?] at hv
        rcases ht : a.tmps[d]? with _ | u
        · rw [ht] at hv
          simp only [Option.getD_none] at hv
          subst hv
          rfl
        · rw [ht] at hv
          simp only [Option.getD_some] at hv
          subst hv
          cases u <;> rfl
      split at hb
      · rename_i c hc
        cases hb
        rw [hc] at hrel
        rw [hyield _ hrel.sInv]
        cases c <;> cases want <;> rfl
      · cases hb
      · rename_i hn1 hn2
        cases hb
        have hv : ∀ c, a.tmps.getD d undef ≠ .bool c := by
          intro c hc
          rw [hc] at hrel
          generalize hp : g.getD d undefP = p at *
          cases hrel with
          | s => exact hn1 _ rfl
          | any => exact hn2 _ _ _ rfl
        rw [hyield _ rfl]
        generalize hv' : a.tmps.getD d undef = v at *
        cases v <;> first | rfl | exact absurd rfl (hv _)
    · rename_i hd
      cases hb
      unfold yielded
      simp [hd]
end
end Go.PI

end
section
/- The pure interpreter and its simulation, part 17. -/
set_option linter.unusedSimpArgs false
set_option linter.unusedVariables false
namespace Go.PI
section
variable {C : Cfg} {w w' : World} {B B0 B1 B2 : Nat → Nat → Prop} {Bs base : Nat} {μ : Mu} {H Hb : List HO} {a : Act} {g : List PV}

/-! ### Closing values -/
/-- The heap Hb holds at least the cells of H, sealed or not. -/
def HSim (H Hb : List HO) : Prop := ∀ (r e : Nat) (cs : List PV) (row : Option Nat) (s : Bool), H[r]? = some (.cells e cs row s) → ∃ s', Hb[r]? = some (.cells e cs row s')
theorem HLe.sim (h : HLe H Hb) : HSim H Hb := fun r e cs row s hr => ⟨s, h r _ hr⟩
theorem slOf_sim (h : HSim H Hb) {p : PV} {x} (hs : slOf H p = some x) : slOf Hb p = some x := by
  unfold slOf at hs ⊢
  split at hs
  · exact hs
  · exact hs
  · split at hs
    · rename_i ho
      obtain ⟨s', ho'⟩ := h _ _ _ _ _ ho
      simp only [ho']; exact hs
    · cases hs
  · cases hs
theorem mapO_rel {f : PV → Option PV} (hf : ∀ p q v, Rel w B1 μ p v → f p = some q → Rel w B0 mu0 q v) : ∀ {ps qs : List PV} {us : List Value}, mapO f ps = some qs → RelL w B1 μ ps us → RelL w B0 mu0 qs us
  | [], qs, us, h, hr => by
    cases h
    have := hr.1
    cases us with
    | nil => exact .nil
    | cons => simp at this
  | p :: ps, qs, us, h, hr => by
    unfold mapO at h
    split at h
    · rename_i q hq
      split at h
      · rename_i qs' hqs
        cases h
        obtain ⟨u, us', rfl, h1, h2⟩ := hr.cons_inv
        exact .cons (hf p q u h1 hq) (mapO_rel hf hqs h2)
      · cases h
    · cases h
theorem mapO_cell {f : PV → Option PV} (hf : ∀ p q, isCell p = true → f p = some q → isCell q = true) : ∀ {ps qs : List PV}, mapO f ps = some qs → (∀ p ∈ ps, isCell p = true) → ∀ q ∈ qs, isCell q = true
  | [], qs, h, _ => by cases h; intro q hq; cases hq
  | p :: ps, qs, h, h1 => by
    unfold mapO at h
    split at h
    · rename_i q hq
      split at h
      · rename_i qs' hqs
        cases h
        intro x hx
        rcases List.mem_cons.1 hx with rfl | hx
        · exact hf p _ (h1 p (by simp)) hq
        · exact mapO_cell hf hqs (fun y hy => h1 y (by simp [hy])) x hx
      · cases h
    · cases h
theorem mapO_len {f : PV → Option PV} : ∀ {ps qs : List PV}, mapO f ps = some qs → qs.length = ps.length
  | [], qs, h => by cases h; rfl
  | p :: ps, qs, h => by
    unfold mapO at h
    split at h
    · split at h
      · rename_i qs' hqs
        cases h
        simp [mapO_len hqs]
      · cases h
    · cases h
theorem lstN_cell (e n : Nat) (cs : List PV) : isCell (lstN e n cs) = true := by unfold lstN; split <;> rfl
theorem close_cell : ∀ (d : Nat) (p q : PV), isCell p = true → close H d p = some q → isCell q = true
  | 0, p, q, _, h => by cases h
  | d + 1, p, q, h1, h => by
    unfold close at h
    cases p with
    | s v =>
      simp only at h
      split at h
      · cases h; rfl
      · cases h; exact h1
    | lst e n cs x => cases h; exact lstN_cell _ _ _
    | lptr e cs => cases h; rfl
    | row r off len =>
      simp only at h
      split at h
      · obtain ⟨l, _, rfl⟩ := Option.map_eq_some_iff.1 h; exact lstN_cell _ _ _
      · cases h
    | ptr r off =>
      simp only at h
      split at h
      · obtain ⟨l, _, rfl⟩ := Option.map_eq_some_iff.1 h; rfl
      · cases h
    | fn f first caps =>
      simp only at h
      split at h
      · obtain ⟨l, _, rfl⟩ := Option.map_eq_some_iff.1 h; rfl
      · cases h
    | _ => first | (cases h1; done) | cases h
theorem lstN_rel {e n : Nat} {cs : List PV} {A : Option Addr} {c : Nat} {us : List Value} (hc : n ≤ c) (hrl : RelL w B0 mu0 cs us) (h1 : ∀ p ∈ cs, isCell p = true)
    (had : 0 < n → ∃ ad, A = some ad ∧ B0 e ad.block ∧ ad.spot = none ∧ ∀ i v, us[i]? = some v → w.cell? (ad.add i) = some v) : Rel w B0 μ (lstN e n cs) (.slice A n c) := by
  unfold lstN
  split
  · rename_i h0
    subst h0
    exact .lst0 (fun h => by cases h)
  · rename_i h0
    obtain ⟨ad, rfl, hb, hs, hcell⟩ := had (by omega)
    exact .lst us (by omega) hc (fun h => by cases h) hb hs hrl.1 hcell h1 hrl.2
theorem close_rel (st : St C B Bs μ Hb w) (hs : HSim H Hb) (h1 : ∀ e b, Bn B Bs μ Hb w e b → B0 e b)
    (h2 : ∀ r l e cs row s, r < H.length → μ r = some l → l.blk = true → Hb[r]? = some (.cells e cs row s) → B0 e l.g) :
    ∀ (d : Nat) (p q : PV) (v : Value), Rel w (Bn B Bs μ Hb w) μ p v → close H d p = some q → Rel w B0 mu0 q v
  | 0, _, _, _, _, h => by cases h
  | d + 1, p, q, v, hr, h => by
    have ih := close_rel st hs h1 h2 d
    have up : ∀ {p : PV} {v : Value}, Rel w (Bn B Bs μ Hb w) mu0 p v → Rel w B0 mu0 p v := fun h => h.imp (fun e b hb => ⟨h1 e b hb, rfl⟩) (fun _ _ h => h)
    unfold close at h
    cases p with
    | s x =>
      have := hr.sInv
      subst this
      cases hr with
      | s hsc =>
        simp only at h
        split at h
        · cases h; exact .lst0 (fun h => by cases h)
        · cases h; exact .s hsc
    | lst e n cs x =>
      cases h
      cases hr with
      | lst0 => exact lstN_rel (us := []) (Nat.zero_le _) .nil (fun p hp => by cases hp) (fun h => absurd h (by omega))
      | lst us hn hc hx hb hsp hl hcell hcs hrr => exact lstN_rel hc ⟨hl, fun i p u hp hu => up (hrr i p u hp hu)⟩ hcs (fun _ => ⟨_, rfl, h1 _ _ hb, hsp, hcell⟩)
    | lptr e cs =>
      cases h
      cases hr with
      | lptr us hb hsp hl hcell hcs hrr => exact .lptr us (h1 _ _ hb) hsp hl hcell hcs (fun i p u hp hu => up (hrr i p u hp hu))
    | row r off len =>
      simp only at h
      split at h
      · rename_i e n cs hsl
        obtain ⟨qs, hqs, rfl⟩ := Option.map_eq_some_iff.1 h
        have hslb := slOf_sim hs hsl
        obtain ⟨A, c, us, hv, hc, hrl, hcs, had⟩ := slOf_rel st hr hslb
        subst hv
        refine lstN_rel hc (mapO_rel (fun p q v => ih p q v) hqs hrl) (mapO_cell (fun p q => close_cell d p q) hqs hcs) (fun hn => ?_)
        obtain ⟨ad, rfl, hsp, hcell⟩ := had hn
        refine ⟨ad, rfl, ?_, hsp, hcell⟩
        unfold slOf at hsl
        simp only at hsl
        split at hsl
        · rename_i e' cs' sz sl ho
          split at hsl
          · cases hsl
            obtain ⟨s', ho'⟩ := hs _ _ _ _ _ ho
            rcases hr.rowInv with ⟨l, hmu, hbk, _, hv⟩ | ⟨l, A', _, h0n, _, _⟩
            · injection hv with hA
              injection hA with hA
              rw [hA]
              exact h2 r l _ _ _ _ (List.getElem?_eq_some_iff.1 ho).1 hmu hbk ho'
            · omega
          · cases hsl
        · cases hsl
      · cases h
    | ptr r off =>
      simp only at h
      split at h
      · rename_i e cs sl ho
        obtain ⟨qs, hqs, rfl⟩ := Option.map_eq_some_iff.1 h
        obtain ⟨s', ho'⟩ := hs _ _ _ _ _ ho
        obtain ⟨ad, us, hv, hsp, hrl, hcell, hcs⟩ := st.cells hr (cs := cs.drop off) (by unfold ptrCells; simp only [ho'])
        have hrl2 := mapO_rel (fun p q v => ih p q v) hqs hrl
        subst hv
        cases hr with
        | @ptr _ _ _ l hmu =>
          refine .lptr us ?_ hsp hrl2.1 hcell (mapO_cell (fun p q => close_cell d p q) hqs hcs) hrl2.2
          obtain ⟨o, hob, hobj⟩ := st.obj r l hmu
          rw [ho'] at hob
          cases hob
          cases hobj with
          | box hk => exact h2 r l _ _ _ _ (List.getElem?_eq_some_iff.1 ho).1 hmu hk ho'
      · cases h
    | fn f first caps =>
      simp only at h
      split at h
      · rename_i as ha
        obtain ⟨cs, hcs, rfl⟩ := Option.map_eq_some_iff.1 h
        cases hr with
        | @fn _ _ _ _ vf vc hl1 hl2 hr1 hr2 =>
          have e1 := mapO_rel (us := vf.toList) (fun p q v => ih p q v) ha ⟨by simpa using hl1, fun i p u hp hu => hr1 i p u hp (by simpa using hu)⟩
          have e2 := mapO_rel (us := vc.toList) (fun p q v => ih p q v) hcs ⟨by simpa using hl2, fun i p u hp hu => hr2 i p u hp (by simpa using hu)⟩
          exact .fn (by simpa using e1.1) (by simpa using e2.1) (fun i p u hp hu => e1.2 i p u hp (by simpa using hu)) (fun i p u hp hu => e2.2 i p u hp (by simpa using hu))
      · cases h
    | agg cs =>
      obtain ⟨qs, hqs, rfl⟩ := Option.map_eq_some_iff.1 h
      cases hr with
      | @agg _ _ us hl hcs hrr =>
        have e1 := mapO_rel (us := us.toList) (fun p q v => ih p q v) hqs ⟨by simpa using hl, fun i p u hp hu => hrr i p u hp (by simpa using hu)⟩
        exact .agg (by simpa using e1.1) (mapO_cell (fun p q => close_cell d p q) hqs hcs) (fun i p u hp hu => e1.2 i p u hp (by simpa using hu))
    | tup vs =>
      obtain ⟨qs, hqs, rfl⟩ := Option.map_eq_some_iff.1 h
      cases hr with
      | @tup _ _ us hl hrr =>
        have e1 := mapO_rel (us := us.toList) (fun p q v => ih p q v) hqs ⟨by simpa using hl, fun i p u hp hu => hrr i p u hp (by simpa using hu)⟩
        exact .tup (by simpa using e1.1) (fun i p u hp hu => e1.2 i p u hp (by simpa using hu))
    | _ => cases h

/-! ### Sealing -/
theorem live_seal (q : PV) (o : HO) : live (sealO q o) = live o := by cases o <;> rfl
theorem writable_seal {q : PV} {o : HO} (h : writable (sealO q o) = true) : writable o = true := by
  cases o with
  | cells e cs row s =>
    simp only [sealO, writable, Bool.not_or, Bool.and_eq_true] at h ⊢
    exact h.1
  | _ => exact h
theorem sealH_get {q : PV} {r : Nat} {o : HO} (h : (sealH H q)[r]? = some o) : ∃ o', H[r]? = some o' ∧ o = sealO q o' := by
  unfold sealH at h
  rw [List.getElem?_map] at h
  obtain ⟨o', h1, h2⟩ := Option.map_eq_some_iff.1 h
  exact ⟨o', h1, h2.symm⟩
theorem objRel_seal {q : PV} {o : HO} {l : Loc} (h : ObjRel C w B μ o l) : ObjRel C w B μ (sealO q o) l := by
  cases h with
  | box hk hh hc => exact .box hk hh hc
  | row hk hs hz h0 hh hl hb hc => exact .row hk hs hz h0 hh hl hb hc
  | row0 hk hs hc => exact .row0 hk hs hc
  | map hk hh hl hr => exact .map hk hh hl hr
  | loop hk hh h1 h2 h3 h4 h5 h6 h7 h8 => exact .loop hk hh h1 h2 h3 h4 h5 h6 h7 h8
  | dead => exact .dead
theorem St.shutAll (st : St C B Bs μ H w) (q : PV) : St C B Bs μ (sealH H q) w ∧ Ext μ H w μ (sealH H q) w := by
  have he : Ext μ H w μ (sealH H q) w := ⟨.refl _ _, fun _ _ h => h, fun b hb => .inl (by
    obtain ⟨r, l, o, h1, h2, h3, h4, h5⟩ := hb
    obtain ⟨o', h6, rfl⟩ := sealH_get h4
    exact ⟨r, l, o', h1, h2, h3, h6, writable_seal h5⟩)⟩
  refine ⟨⟨fun r l h => ?_, fun r1 r2 l1 l2 o1 o2 h1 h2 h3 h4 hl1 hl2 => ?_, fun r1 l1 o1 h1 h2 hl1 => ?_, st.bs, st.low, fun n e cs hn => st.rel he (st.glob n e cs hn)⟩, he⟩
  · obtain ⟨o, ho, hobj⟩ := st.obj r l h
    exact ⟨sealO q o, by unfold sealH; rw [List.getElem?_map, ho]; rfl, objRel_seal (st.objRel he hobj (fun _ _ => rfl))⟩
  · obtain ⟨o3, h5, rfl⟩ := sealH_get h3
    obtain ⟨o4, h6, rfl⟩ := sealH_get h4
    rw [live_seal] at hl1 hl2
    exact st.inj r1 r2 l1 l2 o3 o4 h1 h2 h5 h6 hl1 hl2
  · obtain ⟨o3, h5, rfl⟩ := sealH_get h2
    rw [live_seal] at hl1
    exact st.base r1 l1 o3 h1 h5 hl1
theorem calm_seal (q : PV) (o : HO) : calmO q (sealO q o) = true := by
  cases o with
  | cells e cs row s => simp only [sealO, calmO]; cases s <;> cases hasE e q <;> rfl
  | _ => rfl
theorem sim_seal (H new : List HO) (q : PV) : HSim H (sealH H q ++ new) := fun r e cs row s h =>
  ⟨s || hasE e q, by
    rw [List.getElem?_append_left (by simpa [sealH] using (List.getElem?_eq_some_iff.1 h).1)]
    unfold sealH
    rw [List.getElem?_map, h]
    rfl⟩

/-! ### Results of closed calls -/
def notOwn : PV → Bool
  | .own .. => false
  | _ => true
/-- Results: what is its own lies in blocks bs, of which nothing else leads. -/
inductive ResL (C : Cfg) (w' : World) (B1 : Nat → Nat → Prop) : List PV → List Value → List Nat → Prop
  | nil : ResL C w' B1 [] [] []
  | plain {q u qs us bs} (hn : notOwn q = true) (hr : Rel w' B1 mu0 q u) (h : ResL C w' B1 qs us bs) : ResL C w' B1 (q :: qs) (u :: us) bs
  | own0 {e A qs us bs} (h : ResL C w' B1 qs us bs) : ResL C w' B1 (.own e 0 [] :: qs) (.slice A 0 0 :: us) bs
  | own {e n cs b o c sz cur qs us bs} (hsz : szOf C e = some sz) (h0 : 0 < sz) (hn : n ≤ c) (hh : w'.heap[b]? = some (.cells cur e (0, 0))) (hfit : o + c * sz ≤ cur.size) (hl : cs.length = n * sz) (hc : CellsAt w' B1 mu0 cs cur o)
      (h : ResL C w' B1 qs us bs) : ResL C w' B1 (.own e n cs :: qs) (.slice (some ⟨b, o, none⟩) n c :: us) (b :: bs)
def ResRel (C : Cfg) (w' : World) (base : Nat) (B0 : Nat → Nat → Prop) (q : PV) (v : Value) : Prop :=
  ∃ qs us bs, (q = .tup qs ∧ v = .tuple us.toArray ∨ (∀ l, q ≠ .tup l) ∧ qs = [q] ∧ us = [v]) ∧ bs.Nodup ∧ (∀ b ∈ bs, base ≤ b) ∧
    ResL C w' (fun e b => (B0 e b ∨ (base ≤ b ∧ typed w' b e)) ∧ b ∉ bs) qs us bs

theorem recvL_spec {m : Nat} {qs : List PV} {us : List Value} {bs : List Nat} (h : ResL C w' B1 qs us bs) (hnd : bs.Nodup) : ∀ {m : Nat} {vs : List PV} {new : List HO}, recvL C m qs = some (vs, new) →
    ∃ ls : List Loc, ls.length = new.length ∧ (∀ (j : Nat) (l : Loc), ls[j]? = some l → l.blk = true → l.g ∈ bs) ∧ (∀ (j j' : Nat) (l l' : Loc), ls[j]? = some l → ls[j']? = some l' → l.blk = true → l'.blk = true → l.g = l'.g → j = j') ∧
      (∀ o ∈ new, writable o = true) ∧
      ∀ (B2 : Nat → Nat → Prop) (μ2 : Mu), (∀ p u, (∀ e, hasE e p = true → hasE.hasL e qs = true) → Rel w' B1 mu0 p u → Rel w' B2 μ2 p u) →
        (∀ (j : Nat) (o : HO) (l : Loc), new[j]? = some o → ls[j]? = some l → ObjRel C w' B2 μ2 o l) ∧ ((∀ (j : Nat) (l : Loc), ls[j]? = some l → μ2 (m + j) = some l) → RelL w' B2 μ2 vs us) := by
  induction h with
  | nil =>
    intro m vs new h
    cases h
    exact ⟨[], rfl, fun j l h => by simp at h, fun j j' l l' h => by simp at h, (fun o ho => by cases ho), fun B2 μ2 tr => ⟨fun j o l h => by simp at h, fun _ => .nil⟩⟩
  | @plain q u qs us bs hn hr h ih =>
    intro m vs new hrec
    unfold recvL at hrec
    have h1 : recv1 C m q = some (q, []) := by
      cases q <;> first | rfl | (cases hn; done)
    rw [h1] at hrec
    simp only [List.length_nil, Nat.add_zero] at hrec
    split at hrec
    · rename_i vs' news hrl
      cases hrec
      obtain ⟨ls, a1, a2, a3, a4, a5⟩ := ih hnd hrl
      refine ⟨ls, a1, a2, a3, a4, fun B2 μ2 tr => ?_⟩
      obtain ⟨b1, b2⟩ := a5 B2 μ2 (fun p u hp hu => tr p u (fun e he => by rw [hasE.hasL, hp e he]; simp) hu)
      exact ⟨b1, fun hm => .cons (tr q u (fun e he => by rw [hasE.hasL, he]; rfl) hr) (b2 hm)⟩
    · cases hrec
  | @own0 e A qs us bs h ih =>
    intro m vs new hrec
    unfold recvL at hrec
    unfold recv1 at hrec
    simp only at hrec
    split at hrec
    · rename_i v new1 h1
      split at h1
      · rename_i sz hsz
        split at h1
        · rename_i hc
          cases h1
          split at hrec
          · rename_i vs' news hrl
            cases hrec
            obtain ⟨ls, a1, a2, a3, a4, a5⟩ := ih hnd hrl
            refine ⟨⟨0, 0, 0, sz, false⟩ :: ls, by simp [a1], fun j l hj hk => ?_, fun j j' l l' hj hj' hk hk' hg => ?_, fun o ho => ?_, fun B2 μ2 tr => ?_⟩
            · cases j with
              | zero => simp at hj; subst hj; cases hk
              | succ j => exact a2 j l (by simpa using hj) hk
            · cases j with
              | zero => simp at hj; subst hj; cases hk
              | succ j =>
                cases j' with
                | zero => simp at hj'; subst hj'; cases hk'
                | succ j' => rw [a3 j j' l l' (by simpa using hj) (by simpa using hj') hk hk' hg]
            · simp at ho
              rcases ho with rfl | ho
              · rfl
              · exact a4 o ho
            · obtain ⟨b1, b2⟩ := a5 B2 μ2 (fun p u hp hu => tr p u (fun e he => by rw [hasE.hasL, hp e he]; simp) hu)
              refine ⟨fun j o l hj hl => ?_, fun hm => .cons ?_ (b2 fun j l hj => ?_)⟩
              · cases j with
                | zero => simp at hj hl; subst hj; subst hl; exact .row0 rfl rfl rfl
                | succ j => exact b1 j o l (by simpa using hj) (by simpa using hl)
              · exact .row0 (hm 0 _ rfl) rfl
              · have := hm (j + 1) l (by simpa using hj)
                rw [← this]
                congr 1
                simp
                omega
          · cases hrec
        · cases h1
      · cases h1
    · cases hrec
  | @own e n cs b o c sz cur qs us bs hsz h0 hnc hh hfit hl hc h ih =>
    intro m vs new hrec
    unfold recvL at hrec
    unfold recv1 at hrec
    simp only [hsz, h0, hl, and_self, if_true] at hrec
    split at hrec
    · rename_i vs' news hrl
      cases hrec
      have hnd' := List.nodup_cons.1 hnd
      obtain ⟨ls, a1, a2, a3, a4, a5⟩ := ih hnd'.2 hrl
      refine ⟨⟨b, o, c, sz, true⟩ :: ls, by simp [a1], fun j l hj hk => ?_, fun j j' l l' hj hj' hk hk' hg => ?_, fun o ho => ?_, fun B2 μ2 tr => ?_⟩
      · cases j with
        | zero => simp at hj; subst hj; simp
        | succ j => exact List.mem_cons_of_mem _ (a2 j l (by simpa using hj) hk)
      · cases j with
        | zero =>
          cases j' with
          | zero => rfl
          | succ j' =>
            simp at hj
            subst hj
            have := a2 j' l' (by simpa using hj') hk'
            rw [← hg] at this
            exact absurd this hnd'.1
        | succ j =>
          cases j' with
          | zero =>
            simp at hj'
            subst hj'
            have := a2 j l (by simpa using hj) hk
            rw [hg] at this
            exact absurd this hnd'.1
          | succ j' => rw [a3 j j' l l' (by simpa using hj) (by simpa using hj') hk hk' hg]
      · simp at ho
        rcases ho with rfl | ho
        · rfl
        · exact a4 o ho
      · obtain ⟨b1, b2⟩ := a5 B2 μ2 (fun p u hp hu => tr p u (fun e he => by rw [hasE.hasL, hp e he]; simp) hu)
        refine ⟨fun j o' l hj hl' => ?_, fun hm => .cons ?_ (b2 fun j l hj => ?_)⟩
        · cases j with
          | zero =>
            simp at hj hl'
            subst hj
            subst hl'
            refine .row rfl rfl hsz h0 hh (by rw [hl]; exact Nat.mul_le_mul_right _ hnc) hfit (fun i p hp => ?_)
            obtain ⟨u, h1, h2, h3⟩ := hc i p hp
            exact ⟨u, h1, h2, tr p u (fun e' he => by rw [hasE.hasL, hasE, hasL_mem (mem_of_get hp) he]; rfl) h3⟩
          | succ j => exact b1 j o' l (by simpa using hj) (by simpa using hl')
        · have hm0 := hm 0 _ rfl
          have := Rel.row (w := w') (B := B2) (r := m + 0) (off := 0) (len := n) hm0 rfl (by simpa using hnc)
          simpa using this
        · have := hm (j + 1) l (by simpa using hj)
          rw [← this]
          congr 1
          simp
          omega
    · cases hrec
end
end Go.PI

end
section
/- The pure interpreter and its simulation, part 18. -/
set_option linter.unusedSimpArgs false
set_option linter.unusedVariables false
namespace Go.PI
section
variable {C : Cfg} {w w' : World} {B B0 B1 B2 : Nat → Nat → Prop} {Bs base : Nat} {μ : Mu} {H Hb : List HO} {a : Act} {g : List PV}

/-- What a closed call may read. -/
def callB (B : Nat → Nat → Prop) (Bs : Nat) (μ : Mu) (n : Nat) (w : World) (e b : Nat) : Prop := B e b ∨ (Bs ≤ b ∧ typed w b e ∧ ¬ ∃ r l, n ≤ r ∧ μ r = some l ∧ l.blk = true ∧ l.g = b)
theorem callB_lt (st : St C B Bs μ Hb w) {n e b : Nat} (h : callB B Bs μ n w e b) : b < w.heap.size := by
  rcases h with h | ⟨_, h, _⟩
  · exact Nat.lt_of_lt_of_le (st.low e b h) st.bs
  · exact typed_lt h
theorem callB_bn {n : Nat} (hnew : ∀ r l o, n ≤ r → μ r = some l → Hb[r]? = some o → writable o = true) (st : St C B Bs μ Hb w) (e b : Nat) (h : Bn B Bs μ Hb w e b) : callB B Bs μ n w e b := by
  rcases h with h | ⟨h1, h2, h3⟩
  · exact .inl h
  · refine .inr ⟨h1, h2, ?_⟩
    rintro ⟨r, l, hr, hmu, hk, hg⟩
    obtain ⟨o, ho, _⟩ := st.obj r l hmu
    exact h3 ⟨r, l, o, hmu, hk, hg, ho, hnew r l o hr hmu ho⟩
theorem typed_eq {b e e' : Nat} {cur : Array Value} {fz : Nat × Nat} (h : typed w b e) (h' : w.heap[b]? = some (.cells cur e' fz)) : e = e' := by
  obtain ⟨c, f, h⟩ := h
  rw [h'] at h
  injection h with h
  injection h with _ h _
  exact h.symm
theorem callB_row (st : St C B Bs μ Hb w) {n : Nat} {r : Nat} {l : Loc} {e : Nat} {cs : List PV} {row : Option Nat} {s : Bool} (hn : r < n) (hmu : μ r = some l) (hk : l.blk = true) (ho : Hb[r]? = some (.cells e cs row s))
    (hlive : ∀ r l o, n ≤ r → μ r = some l → Hb[r]? = some o → writable o = true) : callB B Bs μ n w e l.g := by
  obtain ⟨o, ho', hobj⟩ := st.obj r l hmu
  rw [ho] at ho'
  cases ho'
  have hty : typed w l.g e := by
    cases hobj with
    | box _ hh => exact ⟨_, _, hh⟩
    | row _ _ _ _ hh => exact ⟨_, _, hh⟩
    | row0 hk' => rw [hk] at hk'; cases hk'
  refine .inr ⟨st.base r l _ hmu ho rfl hk, hty, ?_⟩
  rintro ⟨r', l', hr', hmu', hk', hg⟩
  obtain ⟨o', ho'', _⟩ := st.obj r' l' hmu'
  have := st.inj r' r l' l o' _ hmu' hmu ho'' ho (live_of_writable (hlive r' l' o' hr' hmu' ho'')) rfl hk' hk hg
  omega

/-- A closed call's results come in. -/
theorem receive (st : St C B Bs μ Hb w) (hp : Pres (fun _ => False) w w') {n : Nat} {q : PV} {u : Value}
    (hres : ResRel C w' w.heap.size (callB B Bs μ n w) q u) (hcalm : ∀ r o, r < n → Hb[r]? = some o → calmO q o = true) {m : Nat} {v : PV} {new : List HO} (hrec : recv C m q = some (v, new))
    (hle : ∀ (j : Nat) (o : HO), new[j]? = some o → Hb[m + j]? = some o) (hm : ∀ r, m ≤ r → r < m + new.length → μ r = none) :
    ∃ μ', St C B Bs μ' Hb w' ∧ Ext μ Hb w μ' Hb w' ∧ Rel w' (Bn B Bs μ' Hb w') μ' v u ∧ ∀ r, (r < m ∨ m + new.length ≤ r) → μ' r = μ r := by
  obtain ⟨qs, us, bs, hqu, hnd, hbs, hresl⟩ := hres
  have hT : ∀ e, hasE.hasL e qs = true → hasE e q = true := by
    intro e he
    rcases hqu with ⟨rfl, _⟩ | ⟨_, rfl, _⟩
    · exact he
    · simpa [hasE.hasL] using he
  obtain ⟨vs, hrl, hv⟩ : ∃ vs, recvL C m qs = some (vs, new) ∧ (v = .tup vs ∧ u = .tuple us.toArray ∨ vs = [v] ∧ us = [u]) := by
    rcases hqu with ⟨rfl, rfl⟩ | ⟨hne, rfl, rfl⟩
    · unfold recv at hrec
      obtain ⟨⟨vs, new'⟩, h1, h2⟩ := Option.map_eq_some_iff.1 hrec
      cases h2
      exact ⟨vs, h1, .inl ⟨rfl, rfl⟩⟩
    · refine ⟨[v], ?_, .inr ⟨rfl, rfl⟩⟩
      have : recv1 C m q = some (v, new) := by
        unfold recv at hrec
        split at hrec
        · exact absurd rfl (hne _)
        · exact hrec
      simp [recvL, this]
  obtain ⟨ls, a1, a2, a3, a4, a5⟩ := recvL_spec (m := m) hresl hnd hrl
  let μ' : Mu := fun r => if m ≤ r ∧ r < m + new.length then ls[r - m]? else μ r
  have hnewm : ∀ (j : Nat) (l : Loc), ls[j]? = some l → μ' (m + j) = some l := by
    intro j l hj
    have hlt := (List.getElem?_eq_some_iff.1 hj).1
    simp only [μ']
    rw [if_pos (by omega), Nat.add_sub_cancel_left]
    exact hj
  have hold : ∀ r, (r < m ∨ m + new.length ≤ r) → μ' r = μ r := by
    intro r hr
    simp only [μ']
    rw [if_neg (by omega)]
  have holdm : ∀ r l, μ r = some l → μ' r = some l := by
    intro r l hr
    rw [hold r, hr]
    rcases Nat.lt_or_ge r m with h | h
    · exact .inl h
    · rcases Nat.lt_or_ge r (m + new.length) with h2 | h2
      · rw [hm r h h2] at hr; cases hr
      · exact .inr h2
  have hcase : ∀ r l, μ' r = some l → (∃ j, r = m + j ∧ ls[j]? = some l) ∨ μ r = some l := by
    intro r l hr
    simp only [μ'] at hr
    split at hr
    · exact .inl ⟨r - m, by omega, hr⟩
    · exact .inr hr
  have hlg : ∀ (j : Nat) (l : Loc), ls[j]? = some l → l.blk = true → w.heap.size ≤ l.g := fun j l hj hk => hbs _ (a2 j l hj hk)
  have hheap : ∀ r l o, μ r = some l → Hb[r]? = some o → live o = true → l.blk = true → l.g < w.heap.size := by
    intro r l o h1 h2 h3 h4
    obtain ⟨o', ho', hobj⟩ := st.obj r l h1
    rw [h2] at ho'
    cases ho'
    exact hobj.heap h4 h3
  have he : Ext μ Hb w μ' Hb w' := ⟨⟨hp.os, hp.tape, hp.output, hp.size, fun b hb _ => hp.block b hb (fun h => h), hp.lp⟩, holdm, fun b hb => by
    obtain ⟨r, l, o, h1, h2, h3, h4, h5⟩ := hb
    rcases hcase r l h1 with ⟨j, rfl, hj⟩ | h1
    · right
      rw [← h3]
      exact hlg j l hj h2
    · exact .inl ⟨r, l, o, h1, h2, h3, h4, h5⟩⟩
  have key : ∀ e b, hasE e q = true → ((callB B Bs μ n w e b ∨ (w.heap.size ≤ b ∧ typed w' b e)) ∧ b ∉ bs) → Bn B Bs μ' Hb w' e b := by
    rintro e b hhas ⟨hor, hnb⟩
    by_cases hBe : B e b
    · exact .inl hBe
    have h3 : Bs ≤ b ∧ typed w' b e ∧ (b < w.heap.size → typed w b e ∧ ¬ ∃ r l, n ≤ r ∧ μ r = some l ∧ l.blk = true ∧ l.g = b) := by
      rcases hor with (h | ⟨h1, h2, h3⟩) | ⟨h1, h2⟩
      · exact absurd h hBe
      · have hlt := typed_lt h2
        obtain ⟨c, f, h4⟩ := h2
        exact ⟨h1, ⟨c, f, (hp.block b hlt (fun h => h)).trans h4⟩, fun _ => ⟨⟨c, f, h4⟩, h3⟩⟩
      · exact ⟨Nat.le_trans st.bs h1, h2, fun h => by omega⟩
    refine .inr ⟨h3.1, h3.2.1, ?_⟩
    rintro ⟨r, l, o, h1, h2, h4, h5, h6⟩
    rcases hcase r l h1 with ⟨j, rfl, hj⟩ | h1
    · exact hnb (h4 ▸ a2 j l hj h2)
    · have hlt : b < w.heap.size := h4 ▸ hheap r l o h1 h5 (live_of_writable h6) h2
      obtain ⟨hty, hnr⟩ := h3.2.2 hlt
      have hrn : r < n := by
        rcases Nat.lt_or_ge r n with h | h
        · exact h
        · exact absurd ⟨r, l, h, h1, h2, h4⟩ hnr
      have hc := hcalm r o hrn h5
      obtain ⟨o', ho', hobj⟩ := st.obj r l h1
      rw [h5] at ho'
      cases ho'
      subst h4
      cases hobj with
      | box hk hh =>
        have := typed_eq hty hh
        subst this
        simp only [writable] at h6
        simp only [calmO, hhas] at hc
        simp_all
      | row hk hs hz h0 hh =>
        have := typed_eq hty hh
        subst this
        simp only [writable] at h6
        simp only [calmO, hhas] at hc
        simp_all
      | row0 hk => rw [h2] at hk; cases hk
      | map hk hh => obtain ⟨c, f, h7⟩ := hty; rw [hh] at h7; cases h7
      | loop hk hh => obtain ⟨c, f, h7⟩ := hty; rw [hh] at h7; cases h7
      | dead => cases h6
  obtain ⟨b1, b2⟩ := a5 (Bn B Bs μ' Hb w') μ' (fun p u hp hu => hu.mono (fun e b he hb => ⟨key e b (hT e (hp e he)) hb, rfl⟩) (fun _ _ h => by cases h))
  refine ⟨μ', ⟨fun r l h => ?_, fun r1 r2 l1 l2 o1 o2 h1 h2 h3 h4 hl1 hl2 hk1 hk2 hg => ?_, fun r1 l1 o1 h1 h2 hl1 hk1 => ?_, Nat.le_trans st.bs hp.size, st.low, fun n e cs hn => st.rel he (st.glob n e cs hn)⟩, he, ?_, hold⟩
  · rcases hcase r l h with ⟨j, rfl, hj⟩ | h
    · have hlt := (List.getElem?_eq_some_iff.1 hj).1
      have hno : new[j]? = some (new[j]'(by omega)) := List.getElem?_eq_getElem (by omega)
      exact ⟨_, hle j _ hno, b1 j _ l hno hj⟩
    · obtain ⟨o, ho, hobj⟩ := st.obj r l h
      exact ⟨o, ho, st.objRel he hobj (fun hk hl => hp.block _ (hheap r l o h ho hl hk) (fun h => h))⟩
  · rcases hcase r1 l1 h1 with ⟨j1, rfl, hj1⟩ | h1 <;> rcases hcase r2 l2 h2 with ⟨j2, rfl, hj2⟩ | h2
    · rw [a3 j1 j2 l1 l2 hj1 hj2 hk1 hk2 hg]
    · have := hlg j1 l1 hj1 hk1
      have := hheap r2 l2 o2 h2 h4 hl2 hk2
      omega
    · have := hlg j2 l2 hj2 hk2
      have := hheap r1 l1 o1 h1 h3 hl1 hk1
      omega
    · exact st.inj r1 r2 l1 l2 o1 o2 h1 h2 h3 h4 hl1 hl2 hk1 hk2 hg
  · rcases hcase r1 l1 h1 with ⟨j1, rfl, hj1⟩ | h1
    · exact Nat.le_trans st.bs (hlg j1 l1 hj1 hk1)
    · exact st.base r1 l1 o1 h1 h2 hl1 hk1
  · have hrel := b2 hnewm
    rcases hv with ⟨rfl, rfl⟩ | ⟨rfl, rfl⟩
    · exact .tup (by simpa using hrel.1) (fun i p u hp hu => hrel.2 i p u hp (by simpa using hu))
    · exact hrel.2 0 _ _ rfl rfl
end
end Go.PI

end
section
/- The pure interpreter and its simulation, part 19. -/
set_option linter.unusedSimpArgs false
set_option linter.unusedVariables false
namespace Go.PI
/-- A closed call of f at these arguments comes to q. -/
def CallsQ (C : Cfg) (f : FuncId) (args : List PV) (q : PV) : Prop :=
  (∃ fn c, C.P.funcs[f]? = some fn ∧ fn.body = some c) ∧
  ∀ (w : World) (B0 : Nat → Nat → Prop) (vargs : Array Value), (∀ e b, B0 e b → b < w.heap.size) → (∀ n e cs, C.glob n = some (e, cs) → Rel w B0 mu0 (.lptr e cs) (.pointer (some ⟨n, 0, none⟩))) →
    RelL w B0 mu0 args vargs.toList → ∀ cs, ∃ w' fr v, Steps C.P (lone (Frame.enter C.P f vargs .normal) cs w) (lone fr cs w') ∧ fr.fn = f ∧ fr.leaving C.P w' (.returned v) ∧ Pres (fun _ => False) w w' ∧ ResRel C w' w.heap.size B0 q v
def retOf : List Value → Value
  | [v] => v
  | vs => .tuple vs.toArray
def FnSim (C : Cfg) (f : FuncId) (args : List PV) (H : List HO) (vs : List PV) (H' : List HO) : Prop :=
  ∀ (B : Nat → Nat → Prop) (Bs : Nat) (μ : Mu) (w : World) (vargs : Array Value) (cs : List Frame), St C B Bs μ H w → RelL w (Bn B Bs μ H w) μ args vargs.toList →
    ∃ μ' w' fr us, Steps C.P (lone (Frame.enter C.P f vargs .normal) cs w) (lone fr cs w') ∧ fr.fn = f ∧ fr.leaving C.P w' (.returned (retOf us)) ∧ St C B Bs μ' H' w' ∧ Ext μ H w μ' H' w' ∧ RelL w' (Bn B Bs μ' H' w') μ' vs us
structure Ok (C : Cfg) : Prop where
  prog : ∀ (f : FuncId) (fn : Func) (c : Code), C.P.funcs[f]? = some fn → fn.body = some c → (fn.name == "runtime.NumGoroutine") = false ∧ (C.fine f = true → codeOk c = true)
  ext : ∀ f args q, C.ext f args = some q → CallsQ C f args q
  hext : ∀ f args H vs H', C.hext f args H = some (vs, H') → (∃ fn c, C.P.funcs[f]? = some fn ∧ fn.body = some c) ∧ FnSim C f args H vs H'

inductive Starts : Code → List Item → Prop
  | code (c : Code) : Starts c [.code c]
  | loop (b : Code) : Starts (.loop b) [.inLoop b]
  | scope (l : Nat) (rest b : Code) (h : findLabel b l = some rest ∨ findLabel b l = some (.seq .skip rest)) : Starts (.scope (.seq (.label l) rest)) [.code rest, .inScope b]

def markOf (D : Nat) : Deferred := { target := .collected D, args := #[] }
def DefOk (s0 : Nat) (w : World) (ds : List Deferred) : Prop := ∃ Ds : List Nat, ds = Ds.map markOf ∧ Ds.Nodup ∧ ∀ D ∈ Ds, s0 ≤ D ∧ w.heap[D]? = some (.deferred (some []))
def RoundOk (b : Frame) (w : World) : Prop := ∀ l, b.roundOf = some l → ∃ L, w.heap[l]? = some (Obj.loop L)

def Arr (P : Program) (b : Frame) (a : Act) (its k : List Item) (cs : List Frame) (w : World) (x : Ex) (a' : Act) (w' : World) : Prop := match x with
  | .normal => Steps P (lone (b.atR a (its ++ k)) cs w) (lone (b.atR a' k) cs w')
  | .exit id => ∃ k', exitTo id k' = exitTo id k ∧ Steps P (lone (b.atR a (its ++ k)) cs w) (lone (b.atR a' (.code (.exit id) :: k')) cs w')
  | .goto l => ∃ k', gotoIn l k' = gotoIn l k ∧ Steps P (lone (b.atR a (its ++ k)) cs w) (lone (b.atR a' (.code (.goto l) :: k')) cs w')
  | .ret => ∃ k', Steps P (lone (b.atR a (its ++ k)) cs w) (lone (b.atR a' (.code .ret :: k')) cs w')

def CodeSim (C : Cfg) (c : Code) (g : List PV) (H : List HO) (x : Ex) (g' : List PV) (H' : List HO) : Prop :=
  ∀ (B : Nat → Nat → Prop) (Bs : Nat) (μ : Mu) (w : World) (b : Frame) (a : Act) (its k : List Item) (cs : List Frame) (s0 : Nat), Starts c its → codeOk c = true → St C B Bs μ H w → RelL w (Bn B Bs μ H w) μ g a.tmps.toList →
    DefOk s0 w a.defers → RoundOk b w → s0 ≤ w.heap.size →
    ∃ μ' w' a', St C B Bs μ' H' w' ∧ Ext μ H w μ' H' w' ∧ RelL w' (Bn B Bs μ' H' w') μ' g' a'.tmps.toList ∧ DefOk s0 w' a'.defers ∧ Arr C.P b a its k cs w x a' w'
def RecSim (C : Cfg) (rec : Rec) : Prop := ∀ c g H x g' H', rec c g H = some (x, g', H') → CodeSim C c g H x g' H'

section
variable {C : Cfg} {w w' : World} {B B0 B1 B2 : Nat → Nat → Prop} {Bs base s0 : Nat} {μ μ' : Mu} {H H' Hb : List HO} {a : Act} {g : List PV} {rec : Rec}

theorem St.notDef (st : St C B Bs μ H w) {r : Nat} {l : Loc} {o : HO} (hr : μ r = some l) (ho : H[r]? = some o) (hl : live o = true) (hk : l.blk = true) {x : Option (List Deferred)} : w.heap[l.g]? ≠ some (.deferred x) := by
  intro h
  obtain ⟨o', ho', hobj⟩ := st.obj r l hr
  rw [ho] at ho'
  cases ho'
  cases hobj with
  | box _ hh => rw [hh] at h; cases h
  | row _ _ _ _ hh => rw [hh] at h; cases h
  | row0 hk' => rw [hk] at hk'; cases hk'
  | map _ hh => rw [hh] at h; cases h
  | loop _ hh => rw [hh] at h; cases h
  | dead => cases hl
theorem DefOk.ext (st : St C B Bs μ H w) {ds : List Deferred} (h : DefOk s0 w ds) (he : Ext μ H w μ' H' w') : DefOk s0 w' ds := by
  obtain ⟨Ds, h1, h2, h3⟩ := h
  refine ⟨Ds, h1, h2, fun D hD => ⟨(h3 D hD).1, ?_⟩⟩
  have hd := (h3 D hD).2
  rw [he.pres.block D (Array.getElem?_eq_some_iff.1 hd).1 (fun hm => ?_)]
  · exact hd
  · obtain ⟨r, l, o, h4, h5, h6, h7, h8⟩ := hm
    subst h6
    exact st.notDef h4 h7 (live_of_writable h8) h5 hd
theorem RoundOk.ext {b : Frame} (h : RoundOk b w) (he : Ext μ H w μ' H' w') : RoundOk b w' := fun l hl => by
  obtain ⟨L, hL⟩ := h l hl
  exact he.pres.lp l L hL

/-- A block of marks is shut. -/
theorem St.shut (st : St C B Bs μ H w) {D : Nat} (hD : w.heap[D]? = some (.deferred (some []))) (hB : Bs ≤ D) :
    St C B Bs μ H (w.putObj D (.deferred none)) ∧ ∀ p v, Rel w (Bn B Bs μ H w) μ p v → Rel (w.putObj D (.deferred none)) (Bn B Bs μ H (w.putObj D (.deferred none))) μ p v := by
  have hsame : ∀ b, b ≠ D → (w.putObj D (.deferred none)).heap[b]? = w.heap[b]? := fun b hb => World.putObj_heap_other hb
  have hbn : ∀ e b, Bn B Bs μ H w e b → Bn B Bs μ H (w.putObj D (.deferred none)) e b ∧ (w.putObj D (.deferred none)).heap[b]? = w.heap[b]? := by
    intro e b h
    rcases h with h | ⟨h1, ⟨c, f, h2⟩, h3⟩
    · have := st.low e b h
      exact ⟨.inl h, hsame b (by omega)⟩
    · have hne : b ≠ D := by rintro rfl; rw [hD] at h2; cases h2
      exact ⟨.inr ⟨h1, ⟨c, f, (hsame b hne).trans h2⟩, h3⟩, hsame b hne⟩
  have hrel : ∀ p v, Rel w (Bn B Bs μ H w) μ p v → Rel (w.putObj D (.deferred none)) (Bn B Bs μ H (w.putObj D (.deferred none))) μ p v := fun p v h => h.imp hbn (fun _ _ h => h)
  refine ⟨⟨fun r l h => ?_, st.inj, st.base, by simpa using st.bs, st.low, fun n e cs hn => hrel _ _ (st.glob n e cs hn)⟩, hrel⟩
  obtain ⟨o, ho, hobj⟩ := st.obj r l h
  refine ⟨o, ho, ?_⟩
  have hg : l.blk = true → live o = true → (w.putObj D (.deferred none)).heap[l.g]? = w.heap[l.g]? := fun hk hl => hsame _ (fun he => st.notDef h ho hl hk (by rw [he]; exact hD))
  have hc : ∀ {cs : List PV} {cur : Array Value} {k : Nat}, CellsAt w (Bn B Bs μ H w) μ cs cur k → CellsAt (w.putObj D (.deferred none)) (Bn B Bs μ H (w.putObj D (.deferred none))) μ cs cur k := fun hc i p hp => by
    obtain ⟨u, h1, h2, h3⟩ := hc i p hp
    exact ⟨u, h1, h2, hrel _ _ h3⟩
  cases hobj with
  | box hk hh hcs => exact .box hk ((hg hk rfl).trans hh) (hc hcs)
  | row hk hs hz h0 hh hl hb hcs => exact .row hk hs hz h0 ((hg hk rfl).trans hh) hl hb (hc hcs)
  | row0 hk hs hcap => exact .row0 hk hs hcap
  | map hk hh hl hr => exact .map hk ((hg hk rfl).trans hh) hl (fun i k p hp => by obtain ⟨m, h1, h2, h3⟩ := hr i k p hp; exact ⟨m, h1, h2, hrel _ _ h3⟩)
  | loop hk hh h1 h2 h3 h4 h5 h6 h7 h8 => exact .loop hk ((hg hk rfl).trans hh) h1 h2 h3 h4 h5 ⟨h6.1, fun i p u hp hu => hrel _ _ (h6.2 i p u hp hu)⟩ h7 h8
  | dead => exact .dead

/-- A frame on its way out comes past its marks. -/
theorem pop_marks {μ0 : Mu} {H0 : List HO} {w0 : World} : ∀ (Ds : List Nat) {w : World} {fr : Frame} {cs : List Frame}, fr.mode = .returning → fr.defers = Ds.map markOf → Ds.Nodup → (∀ D ∈ Ds, w0.heap.size ≤ D ∧ w.heap[D]? = some (.deferred (some []))) →
    St C B Bs μ H w → Bs ≤ w0.heap.size → Ext μ0 H0 w0 μ H w →
    ∃ w', Steps C.P (lone fr cs w) (lone { fr with defers := [] } cs w') ∧ St C B Bs μ H w' ∧ Ext μ0 H0 w0 μ H w' ∧ ∀ p v, Rel w (Bn B Bs μ H w) μ p v → Rel w' (Bn B Bs μ H w') μ p v
  | [], w, fr, cs, hm, hd, _, _, st, _, he => by
    refine ⟨w, ?_, st, he, fun p v h => h⟩
    have : { fr with defers := [] } = fr := by cases fr; simp at hd; simp [hd]
    rw [this]
    exact Steps.refl _ _
  | D :: Ds, w, fr, cs, hm, hd, hnd, hD, st, hB, he => by
    have hnd' := List.nodup_cons.1 hnd
    obtain ⟨h1, h2⟩ := hD D (by simp)
    obtain ⟨st', hrel⟩ := st.shut h2 (Nat.le_trans hB h1)
    have hstep := step_collected (P := C.P) (fr := fr) (cs := cs) (w := w) (d := markOf D) (ds := Ds.map markOf) (r := D) (by rw [hm]; intro h; cases h) (by rw [hd]; rfl) rfl (run_takeDeferred h2)
    have he' : Ext μ0 H0 w0 μ H (w.putObj D (.deferred none)) := ⟨⟨he.pres.os, he.pres.tape, he.pres.output, by simpa using he.pres.size, fun b hb hn => by
      rw [World.putObj_heap_other (by omega)]
      exact he.pres.block b hb hn, fun b L hb => by
      have hlt := (Array.getElem?_eq_some_iff.1 hb).1
      rw [World.putObj_heap_other (by omega)]
      exact he.pres.lp b L hb⟩, he.mu, he.mt⟩
    obtain ⟨w', k1, k2, k3, k4⟩ := pop_marks Ds (w := w.putObj D (.deferred none)) (fr := { fr with defers := [] ++ Ds.map markOf }) (cs := cs) hm rfl hnd'.2 (fun D' hD' => by
      obtain ⟨h3, h4⟩ := hD D' (by simp [hD'])
      have hne : D' ≠ D := by rintro rfl; exact hnd'.1 hD'
      exact ⟨h3, by rw [World.putObj_heap_other hne]; exact h4⟩) st' hB he'
    exact ⟨w', .head hstep k1, k2, k3, fun p v h => k4 p v (hrel p v h)⟩

/-! ### Results -/
theorem run_mapM_rel {F : ResultVar → Option PV} {f : ResultVar → Sem Value} {P : Program} {B' : Nat → Nat → Prop} (hf : ∀ x q, F x = some q → ∃ u, (f x).run P w = .ok u w ∧ Rel w B' μ q u) :
    ∀ {l : List ResultVar} {vs : List PV}, mapRes F l = some vs → ∃ us, (l.mapM f).run P w = .ok us w ∧ RelL w B' μ vs us
  | [], vs, h => by cases h; exact ⟨[], by simp, .nil⟩
  | x :: l, vs, h => by
    unfold mapRes at h
    split at h
    · rename_i q hq
      obtain ⟨qs, hqs, rfl⟩ := Option.map_eq_some_iff.1 h
      obtain ⟨u, h1, h2⟩ := hf x q hq
      obtain ⟨us, h3, h4⟩ := run_mapM_rel hf hqs
      refine ⟨u :: us, ?_, .cons h2 h4⟩
      rw [List.mapM_cons]
      simp [h1, h3]
    · cases h
def resOf (tmps : Array Value) : ResultVar → Sem Value
  | .tmp t => pure (tmps.getD t undef)
  | .cell a t => do loadVar t (← asAddr (tmps.getD a undef))
theorem results_eq (fn : Func) (tmps : Array Value) : results fn tmps = (do let vs ← fn.results.mapM (resOf tmps); pure (if h : vs.size = 1 then vs[0] else .tuple vs)) := by
  unfold results
  congr 1
theorem run_results (st : St C B Bs μ H w) (hg : RelL w (Bn B Bs μ H w) μ g a.tmps.toList) {fn : Func} {vs : List PV} (h : mapRes (resVar C g H) fn.results.toList = some vs) :
    ∃ us, (results fn a.tmps).run C.P w = .ok (retOf us) w ∧ RelL w (Bn B Bs μ H w) μ vs us := by
  obtain ⟨us, h1, h2⟩ := run_mapM_rel (f := resOf a.tmps) (P := C.P) (B' := Bn B Bs μ H w) (fun x q hq => by
    cases x with
    | tmp t => simp only [resVar] at hq; cases hq; exact ⟨a.tmps.getD t undef, by simp [resOf], getD_rel hg t⟩
    | cell ad t =>
      simp only [resVar] at hq
      obtain ⟨u, h1, h2⟩ := run_loadAt st (getD_rel hg ad) hq
      refine ⟨u, ?_, h2⟩
      show (do loadVar t (← asAddr (a.tmps.getD ad undef)) : Sem Value).run C.P w = _
      generalize a.tmps.getD ad undef = v at *
      simp only [Instr.loadAt, Sem.run_bind] at h1
      cases v <;> first | (simp [Instr.sureAddr, stuck] at h1; done) | skip
      rename_i p
      cases p with
      | none => simp [Instr.sureAddr, stuck] at h1
      | some ad' => simpa [Instr.sureAddr, asAddr] using h1) h
  refine ⟨us, ?_, h2⟩
  rw [results_eq, Array.mapM_eq_mapM_toList]
  simp only [Sem.run_bind]
  have h3 : (List.toArray <$> (fn.results.toList.mapM (resOf a.tmps))).run C.P w = .ok us.toArray w := by
    rw [map_eq_pure_bind]
    simp only [Sem.run_bind, h1, Result.andThen_ok, Sem.run_pure]
  rw [h3]
  simp only [Result.andThen_ok, Sem.run_pure]
  congr 1
  match us with
  | [] => rfl
  | [v] => rfl
  | u :: v :: l => simp [retOf]

theorem replicate_rel {B' : Nat → Nat → Prop} {args : List PV} {vargs : Array Value} (h : RelL w B' μ args vargs.toList) (n : Nat) : RelL w B' μ (args ++ List.replicate (n - args.length) undefP) (vargs ++ Array.replicate (n - vargs.size) undef).toList := by
  have e : vargs.size = args.length := by have := h.1; simpa using this
  rw [Array.toList_append, Array.toList_replicate, e]
  exact h.append (RelL.replicate rel_undef _)
/-- A function's body in the heap. -/
theorem fn_sim (hok : Ok C) (hr : RecSim C rec) {f : FuncId} {args vs : List PV} (h : bodyRun C rec f args H = some (vs, H')) :
    (∃ fn c, C.P.funcs[f]? = some fn ∧ fn.body = some c) ∧ FnSim C f args H vs H' := by
  unfold bodyRun at h
  split at h
  · rename_i fn hfn
    split at h
    · rename_i c hc
      split at h
      rotate_left
      · cases h
      rename_i hfi
      split at h
      · rename_i x g H1 hrec
        split at h
        · rename_i hx
          obtain ⟨vs', hm, he⟩ := Option.map_eq_some_iff.1 h
          cases he
          refine ⟨⟨fn, c, hfn, hc⟩, fun B Bs μ w vargs cs st hargs => ?_⟩
          let b : Frame := { (default : Frame) with fn := f, kind := .normal, roundOf := none }
          have hen : Frame.enter C.P f vargs .normal = b.atR { tmps := vargs ++ Array.replicate (fn.ntmps - vargs.size) undef, defers := [] } ([.code c] ++ []) := by
            simp [Frame.enter, Frame.atR, b, hfn, hc]
          obtain ⟨μ1, w1, a1, st1, he1, hg1, hd1, harr⟩ := hr c _ H x g H' hrec B Bs μ w b { tmps := vargs ++ Array.replicate (fn.ntmps - vargs.size) undef, defers := [] } [.code c] [] cs w.heap.size (.code c) ((hok.prog f fn c hfn hc).2 hfi) st
            (replicate_rel hargs _) ⟨[], rfl, List.nodup_nil, fun D h => by cases h⟩ (fun l h => by cases h) (Nat.le_refl _)
          obtain ⟨k', hsteps⟩ : ∃ k', Steps C.P (lone (Frame.enter C.P f vargs .normal) cs w) (lone { b.atR a1 k' with mode := .returning } cs w1) := by
            rw [hen]
            rcases hx with rfl | rfl
            · exact ⟨[], Steps.trans harr (.one (stepR_end rfl))⟩
            · obtain ⟨k', hs⟩ := harr
              exact ⟨_, Steps.trans hs (.one (stepR_ret rfl))⟩
          obtain ⟨Ds, hds, hnd, hD⟩ := hd1
          obtain ⟨w2, k1, k2, k3, k4⟩ := pop_marks (μ0 := μ) (H0 := H) (w0 := w) (cs := cs) Ds (fr := { b.atR a1 k' with mode := .returning }) rfl hds hnd hD st1 st.bs he1
          have hg2 : RelL w2 (Bn B Bs μ1 H' w2) μ1 g a1.tmps.toList := ⟨hg1.1, fun i p u hp hu => k4 p u (hg1.2 i p u hp hu)⟩
          obtain ⟨us, hrun, hus⟩ := run_results (a := a1) k2 hg2 hm
          exact ⟨μ1, w2, _, us, Steps.trans hsteps k1, rfl, ⟨rfl, rfl, rfl, fn, hfn, hrun⟩, k2, k3, hus⟩
        · cases h
      · cases h
    · cases h
  · cases h
theorem tupOf_rel {B' : Nat → Nat → Prop} {vs : List PV} {us : List Value} (h : RelL w B' μ vs us) : Rel w B' μ (tupOf vs) (retOf us) := by
  match vs, us, h with
  | [p], [u], h => exact h.2 0 p u rfl rfl
  | [], [], h => exact .tup rfl (fun i p u hp => by simp at hp)
  | p :: q :: vs, u :: v :: us, h => exact .tup (by simpa using h.1) (fun i p u hp hu => h.2 i p u hp (by simpa [retOf] using hu))
  | [], u :: us, h => have := h.1; simp at this
  | p :: vs, [], h => have := h.1; simp at this
  | [p], u :: v :: us, h => have := h.1; simp at this
  | p :: q :: vs, [u], h => have := h.1; simp at this
end
end Go.PI

end
section
/- The pure interpreter and its simulation, part 20. -/
set_option linter.unusedSimpArgs false
set_option linter.unusedVariables false
namespace Go.PI
section
variable {C : Cfg} {w w' : World} {B B0 B1 B2 Bq : Nat → Nat → Prop} {Bs base s0 : Nat} {μ μ' : Mu} {H H' Hb : List HO} {a : Act} {g : List PV} {rec : Rec}

theorem closeRes_has {t : Nat} {o : List PV} {p q : PV} (h : closeRes C H t o p = some q) : ∃ c, close H 6 p = some c ∧ ∀ e, hasE e q = true → hasE e c = true := by
  unfold closeRes at h
  split at h
  · split at h
    · refine ⟨.lst 0 0 [] false, rfl, fun e he => ?_⟩
      split at h
      · cases h; simp [hasE, hasE.hasL] at he
      · cases h; exact he
    · rename_i hv
      cases h
      refine ⟨_, ?_, fun e he => he⟩
      unfold close
      simp only
  · split at h
    · rename_i e cs0 sz ho
      split at h
      · rename_i e1 n1 cs hsl
        split at h
        · rename_i cs' hcs
          refine ⟨lstN e1 n1 cs', by unfold close; simp only [hsl, hcs]; rfl, fun e2 he => ?_⟩
          have hsl' := hsl
          simp only [slOf, ho] at hsl'
          split at hsl'
          · cases hsl'
            split at h
            · cases h
              simp only [hasE] at he
              unfold lstN
              split
              · rename_i h0
                subst h0
                have : cs' = [] := List.eq_nil_of_length_eq_zero (by rw [mapO_len hcs]; simp)
                subst this
                simp [hasE.hasL] at he
              · simp [hasE, he]
            · cases h; exact he
          · cases hsl'
        · cases h
      · cases h
    · exact ⟨_, h, fun e he => he⟩
  · cases h
  · exact ⟨_, h, fun e he => he⟩
theorem close_notOwn : ∀ {d : Nat} {p q : PV}, close H d p = some q → notOwn q = true
  | 0, p, q, h => by cases h
  | d + 1, p, q, h => by
    unfold close at h
    split at h
    · split at h <;> (cases h; rfl)
    · cases h; unfold lstN; split <;> rfl
    · cases h; rfl
    · split at h
      · obtain ⟨l, _, rfl⟩ := Option.map_eq_some_iff.1 h; unfold lstN; split <;> rfl
      · cases h
    · split at h
      · obtain ⟨l, _, rfl⟩ := Option.map_eq_some_iff.1 h; rfl
      · cases h
    · split at h
      · obtain ⟨l, _, rfl⟩ := Option.map_eq_some_iff.1 h; rfl
      · cases h
    · obtain ⟨l, _, rfl⟩ := Option.map_eq_some_iff.1 h; rfl
    · obtain ⟨l, _, rfl⟩ := Option.map_eq_some_iff.1 h; rfl
    · cases h

/-- Whose is a result's own block. -/
def OwnInfo (H : List HO) (w' : World) (base : Nat) (vs : List PV) (j e b : Nat) : Prop :=
  base ≤ b ∧ (∃ cur fz, w'.heap[b]? = some (.cells cur e fz)) ∧ (others vs j).all (offOwn H e) = true ∧ ∃ r off n cs sz s, vs[j]? = some (.row r off n) ∧ H[r]? = some (.cells e cs sz s)
theorem mem_others {vs : List PV} {i j : Nat} {p : PV} (hp : vs[i]? = some p) (h : i ≠ j) : p ∈ others vs j := by
  unfold others
  rw [List.mem_append]
  rcases Nat.lt_or_ge i j with h1 | h1
  · left
    exact mem_of_get (i := i) (by rw [List.getElem?_take, if_pos h1]; exact hp)
  · right
    exact mem_of_get (i := i - (j + 1)) (by rw [List.getElem?_drop]; rw [show j + 1 + (i - (j + 1)) = i from by omega]; exact hp)
theorem OwnInfo.off {vs : List PV} {i j e b : Nat} {p : PV} (h : OwnInfo H w' base vs j e b) (hp : vs[i]? = some p) (hij : i ≠ j) : offOwn H e p = true := List.all_eq_true.1 h.2.2.1 p (mem_others hp hij)
theorem OwnInfo.apart {vs : List PV} {i j e e' b b' : Nat} (h : OwnInfo H w' base vs j e b) (h' : OwnInfo H w' base vs i e' b') (hij : i ≠ j) : b ≠ b' := by
  rintro rfl
  obtain ⟨_, ⟨c1, f1, h1⟩, _, _⟩ := id h
  obtain ⟨_, ⟨c2, f2, h2⟩, _, r, off, n, cs, sz, s, hv, hr⟩ := h'
  rw [h1] at h2
  injection h2 with h2
  injection h2 with _ h2 _
  subst h2
  have := h.off hv hij
  unfold offOwn at this
  simp only [hr, bne_self_eq_false, Bool.false_and] at this
  cases this

theorem closeAll_res (st : St C B0 base μ H w') (vs : List PV) (ts : List TypeId) : ∀ (ps : List PV) (i : Nat) {qs : List PV} {us : List Value}, (∀ (j : Nat) (p : PV), ps[j]? = some p → vs[i + j]? = some p) → closeAll C H ts vs i ps = some qs → RelL w' (Bn B0 base μ H w') μ ps us →
    ∃ bs, ResL C w' (fun e b => B0 e b ∨ (base ≤ b ∧ typed w' b e)) qs us bs ∧ bs.Nodup ∧ qs.length = ps.length ∧
      (∀ b ∈ bs, ∃ j e, i ≤ j ∧ OwnInfo H w' base vs j e b ∧ ∀ q, qs[j - i]? = some q → hasE e q = false) ∧
      ∀ (j : Nat) (q : PV), qs[j]? = some q → ∃ p t, ps[j]? = some p ∧ closeRes C H t (others vs (i + j)) p = some q
  | [], i, qs, us, _, h, hr => by
    cases h
    have := hr.1
    cases us with
    | nil => exact ⟨[], .nil, List.nodup_nil, rfl, (fun b hb => by cases hb), fun j q hq => by simp at hq⟩
    | cons => simp at this
  | p :: ps, i, qs, us, hps, h, hr => by
    unfold closeAll at h
    split at h
    · rename_i q hq
      obtain ⟨qs', hqs, rfl⟩ := Option.map_eq_some_iff.1 h
      obtain ⟨u, us', rfl, hu, hus⟩ := hr.cons_inv
      obtain ⟨bs, a1, a2, a3, a4, a5⟩ := closeAll_res st vs ts ps (i + 1) (fun j p hp => by
        have := hps (j + 1) p (by simpa using hp)
        rw [← this]; congr 1; omega) hqs hus
      have hvi : vs[i]? = some p := by simpa using hps 0 p rfl
      have hnext : ∀ (j : Nat) (q' : PV), (q :: qs')[j]? = some q' → ∃ p' t, (p :: ps)[j]? = some p' ∧ closeRes C H t (others vs (i + j)) p' = some q' := by
        intro j q' hj
        cases j with
        | zero => simp at hj; subst hj; exact ⟨p, _, rfl, hq⟩
        | succ j =>
          obtain ⟨p', t, h1, h2⟩ := a5 j q' (by simpa using hj)
          exact ⟨p', t, by simpa using h1, by rw [show i + (j + 1) = i + 1 + j from by omega]; exact h2⟩
      have hinfo : ∀ b ∈ bs, ∃ j e, i ≤ j ∧ i ≠ j ∧ OwnInfo H w' base vs j e b ∧ ∀ q', (q :: qs')[j - i]? = some q' → hasE e q' = false := by
        intro b hb
        obtain ⟨j, e, h1, h2, h3⟩ := a4 b hb
        refine ⟨j, e, by omega, by omega, h2, fun q' hq' => h3 q' ?_⟩
        rw [show j - i = (j - (i + 1)) + 1 from by omega] at hq'
        simpa using hq'
      have h1 : ∀ e b, Bn B0 base μ H w' e b → B0 e b ∨ (base ≤ b ∧ typed w' b e) := fun e b h => h.imp id (fun h => ⟨h.1, h.2.1⟩)
      have h2 : ∀ r l e cs row s, r < H.length → μ r = some l → l.blk = true → H[r]? = some (.cells e cs row s) → B0 e l.g ∨ (base ≤ l.g ∧ typed w' l.g e) := by
        intro r l e cs row s _ hmu hk ho
        refine .inr ⟨st.base r l _ hmu ho rfl hk, ?_⟩
        obtain ⟨o, ho', hobj⟩ := st.obj r l hmu
        rw [ho] at ho'
        cases ho'
        cases hobj with
        | box _ hh => exact ⟨_, _, hh⟩
        | row _ _ _ _ hh => exact ⟨_, _, hh⟩
        | row0 hk' => rw [hk] at hk'; cases hk'
      have hclose : ∀ (d : Nat) (p q : PV) (v : Value), Rel w' (Bn B0 base μ H w') μ p v → close H d p = some q → Rel w' (fun e b => B0 e b ∨ (base ≤ b ∧ typed w' b e)) mu0 q v := close_rel st (HLe.refl H).sim h1 h2
      have plain : notOwn q = true → Rel w' (fun e b => B0 e b ∨ (base ≤ b ∧ typed w' b e)) mu0 q u → ∃ bs, ResL C w' (fun e b => B0 e b ∨ (base ≤ b ∧ typed w' b e)) (q :: qs') (u :: us') bs ∧ bs.Nodup ∧ (q :: qs').length = (p :: ps).length ∧
          (∀ b ∈ bs, ∃ j e, i ≤ j ∧ OwnInfo H w' base vs j e b ∧ ∀ q', (q :: qs')[j - i]? = some q' → hasE e q' = false) ∧
          ∀ (j : Nat) (q' : PV), (q :: qs')[j]? = some q' → ∃ p' t, (p :: ps)[j]? = some p' ∧ closeRes C H t (others vs (i + j)) p' = some q' := fun hn hrel =>
        ⟨bs, .plain hn hrel a1, a2, by simp [a3], (fun b hb => by obtain ⟨j, e, h1, _, h2⟩ := hinfo b hb; exact ⟨j, e, h1, h2⟩), hnext⟩
      have hq' := hq
      unfold closeRes at hq'
      split at hq'
      · rename_i v
        split at hq'
        · split at hq'
          · cases hq'
            have := hu.sInv
            subst this
            exact ⟨bs, .own0 a1, a2, by simp [a3], (fun b hb => by obtain ⟨j, e, h1, _, h2⟩ := hinfo b hb; exact ⟨j, e, h1, h2⟩), hnext⟩
          · cases hq'
            have := hu.sInv
            subst this
            exact plain rfl (.lst0 (fun h => by cases h))
        · cases hq'
          have := hu.sInv
          subst this
          cases hu with
          | s hs => exact plain rfl (.s hs)
      · rename_i r off len
        split at hq'
        · rename_i e cs0 sz ho
          split at hq'
          · rename_i e1 n1 cs hsl
            split at hq'
            · rename_i cs' hcs
              have hcl : close H 6 (.row r off len) = some (lstN e1 n1 cs') := by unfold close; simp only [hsl, hcs]; rfl
              have hsl' := hsl
              simp only [slOf, ho] at hsl'
              split at hsl'
              · rename_i hfit
                cases hsl'
                split at hq'
                · rename_i hcond
                  cases hq'
                  simp only [Bool.and_eq_true, Bool.not_eq_true', beq_iff_eq] at hcond
                  obtain ⟨⟨c1, c2⟩, c3⟩ := hcond
                  obtain ⟨A, c, xs, hv, hcn, hrl, hcell, had⟩ := slOf_rel st hu hsl
                  have hrl' := mapO_rel (fun p q v => hclose 5 p q v) hcs hrl
                  have hcell' := mapO_cell (fun p q => close_cell 5 p q) hcs hcell
                  have hlen : cs'.length = len * sz := by
                    rw [mapO_len hcs, List.length_take, List.length_drop]
                    rw [Nat.add_mul] at hfit
                    omega
                  rcases hu.rowInv with ⟨l, hmu, hbk, hle, hv'⟩ | ⟨l, A', hmu, h0n, hoff, hv'⟩
                  · obtain ⟨ob, hob, hobj⟩ := st.obj r l hmu
                    rw [ho] at hob
                    cases hob
                    cases hobj with
                    | @row _ _ _ _ _ cur hk hs hz h0 hh hl hb hc =>
                      subst hv'
                      have hinf : OwnInfo H w' base vs i e l.g := ⟨st.base r l _ hmu ho rfl hbk, ⟨_, _, hh⟩, c1, r, off, len, cs0, some sz, false, hvi, ho⟩
                      refine ⟨l.g :: bs, .own (sz := sz) (cur := cur) c3 h0 (by omega) hh ?_ hlen ?_ a1, ?_, by simp [a3], fun b hb => ?_, hnext⟩
                      · rw [hs, Nat.add_assoc, ← Nat.add_mul, show off + (l.cap - off) = l.cap from by omega]
                        exact hb
                      · intro j pj hj
                        have hpos : 0 < len := by
                          have := (List.getElem?_eq_some_iff.1 hj).1
                          rcases Nat.eq_zero_or_pos len with h | h
                          · rw [hlen, h] at this; simp at this
                          · exact h
                        obtain ⟨ad, rfl, hsp, hcl2⟩ := had hpos
                        injection hv with hA
                        injection hA with hA
                        subst hA
                        obtain ⟨x, hx, hxr⟩ := hrl'.get hj
                        refine ⟨x, ?_, hcell' _ (mem_of_get hj), hxr⟩
                        have := hcl2 j x hx
                        rw [add_plain'] at this
                        simpa [World.cell?, hh] using this
                      · refine List.nodup_cons.2 ⟨fun hin => ?_, a2⟩
                        obtain ⟨j, e', _, hne, h3, _⟩ := hinfo _ hin
                        exact h3.apart hinf hne rfl
                      · rcases List.mem_cons.1 hb with rfl | hb
                        · refine ⟨i, e, Nat.le_refl _, hinf, fun q' hq' => ?_⟩
                          simp at hq'
                          subst hq'
                          simpa [hasE] using c2
                        · obtain ⟨j, e', h1, _, h2⟩ := hinfo b hb
                          exact ⟨j, e', h1, h2⟩
                    | row0 hk => rw [hbk] at hk; cases hk
                  · subst h0n
                    subst hv'
                    have : cs' = [] := List.eq_nil_of_length_eq_zero (by rw [hlen]; simp)
                    subst this
                    exact ⟨bs, .own0 a1, a2, by simp [a3], (fun b hb => by obtain ⟨j, e, h1, _, h2⟩ := hinfo b hb; exact ⟨j, e, h1, h2⟩), hnext⟩
                · cases hq'
                  exact plain (by unfold lstN; split <;> rfl) (hclose 6 _ _ _ hu hcl)
              · cases hsl'
            · cases hq'
          · cases hq'
        · exact plain (close_notOwn hq') (hclose 6 _ _ _ hu hq')
      · cases hq'
      · exact plain (close_notOwn hq') (hclose 6 _ _ _ hu hq')
    · cases h

theorem ResL.mono (h : ∀ e b, B1 e b → B2 e b) : ∀ {qs : List PV} {us : List Value} {bs : List Nat}, ResL C w' B1 qs us bs → ResL C w' B2 qs us bs := by
  intro qs us bs h'
  induction h' with
  | nil => exact .nil
  | plain hn hr _ ih => exact .plain hn (hr.imp (fun e b hb => ⟨h e b hb, rfl⟩) (fun _ _ h => h)) ih
  | own0 _ ih => exact .own0 ih
  | own hsz h0 hn hh hfit hl hc _ ih => exact .own hsz h0 hn hh hfit hl (fun i p hp => by
      obtain ⟨u, h1, h2, h3⟩ := hc i p hp
      exact ⟨u, h1, h2, h3.imp (fun e b hb => ⟨h e b hb, rfl⟩) (fun _ _ h => h)⟩) ih
theorem ResL.restrict : ∀ {qs : List PV} {us : List Value} {bs : List Nat}, ResL C w' B1 qs us bs → (∀ q ∈ qs, ∀ e b, hasE e q = true → B1 e b → B2 e b) → ResL C w' B2 qs us bs := by
  intro qs us bs h'
  induction h' with
  | nil => intro _; exact .nil
  | @plain q u qs us bs hn hr _ ih =>
    intro h
    exact .plain hn (hr.mono (fun e b he hb => ⟨h _ (by simp) e b he hb, rfl⟩) (fun _ _ h => h)) (ih (fun q hq => h q (by simp [hq])))
  | own0 _ ih => intro h; exact .own0 (ih (fun q hq => h q (by simp [hq])))
  | own hsz h0 hn hh hfit hl hc _ ih =>
    intro h
    exact .own hsz h0 hn hh hfit hl (fun i p hp => by
      obtain ⟨u, h1, h2, h3⟩ := hc i p hp
      exact ⟨u, h1, h2, h3.mono (fun e b he hb => ⟨h _ List.mem_cons_self e b (by simp only [hasE]; exact hasL_mem (mem_of_get hp) he) hb, rfl⟩) (fun _ _ h => h)⟩) (ih (fun q hq => h q (by simp [hq])))
theorem lstN_notTup {e n : Nat} {cs l : List PV} (h : lstN e n cs = .tup l) : False := by
  unfold lstN at h
  split at h <;> cases h
theorem close_notTup {d : Nat} {p : PV} {l : List PV} (h : close H d p = some (.tup l)) : ∃ vs, p = .tup vs := by
  cases d with
  | zero => cases h
  | succ d =>
    unfold close at h
    cases p with
    | tup vs => exact ⟨vs, rfl⟩
    | s v =>
      simp only at h
      split at h <;> cases h
    | lst e n cs x => exact (lstN_notTup (Option.some.inj h)).elim
    | lptr e cs => cases h
    | row r off len =>
      simp only at h
      split at h
      · obtain ⟨l, _, h⟩ := Option.map_eq_some_iff.1 h; exact (lstN_notTup h).elim
      · cases h
    | ptr r off =>
      simp only at h
      split at h
      · obtain ⟨l, _, h⟩ := Option.map_eq_some_iff.1 h; cases h
      · cases h
    | fn f a b =>
      simp only at h
      split at h
      · obtain ⟨l, _, h⟩ := Option.map_eq_some_iff.1 h; cases h
      · cases h
    | agg cs => obtain ⟨l, _, h⟩ := Option.map_eq_some_iff.1 h; cases h
    | _ => cases h
theorem closeRes_notTup {t : Nat} {o : List PV} {p : PV} {l : List PV} (h : closeRes C H t o p = some (.tup l)) : False := by
  unfold closeRes at h
  split at h
  · split at h
    · split at h <;> cases h
    · cases h
  · split at h
    · split at h
      · split at h
        · split at h
          · cases h
          · exact lstN_notTup (Option.some.inj h)
        · cases h
      · cases h
    · obtain ⟨vs, hv⟩ := close_notTup h; cases hv
  · cases h
  · rename_i h1 h2 h3
    obtain ⟨vs, hv⟩ := close_notTup h
    exact h3 _ hv
theorem mut_nil {b : Nat} : ¬ Mut mu0 ([] : List HO) b := by
  rintro ⟨r, l, o, h, _⟩
  cases h
/-- A closed call. -/
theorem pcall_sim (hok : Ok C) (hr : RecSim C rec) {f : FuncId} {args : List PV} {q : PV} (h : pcall C rec f args = some q) : CallsQ C f args q := by
  unfold pcall at h
  split at h
  · rename_i q' hq
    cases h
    exact hok.ext f args q hq
  · split at h
    · rename_i vs H' fn hb hf
      obtain ⟨qs, hqs, rfl⟩ := Option.map_eq_some_iff.1 h
      obtain ⟨hen, hsim⟩ := fn_sim hok hr hb
      refine ⟨hen, fun w B0 vargs hB0 hglob hargs cs => ?_⟩
      have st0 : St C B0 w.heap.size mu0 [] w := ⟨(fun r l h => by cases h), (fun r r' l l' o o' h => by cases h), (fun r l o h => by cases h), Nat.le_refl _, hB0, fun n e cs hn => (hglob n e cs hn).imp (fun e b hb => ⟨.inl hb, rfl⟩) (fun _ _ h => h)⟩
      obtain ⟨μ', w', fr, us, hs, hfn, hleave, st', he, hus⟩ := hsim B0 w.heap.size mu0 w vargs cs st0 (hargs.imp (fun e b hb => ⟨.inl hb, rfl⟩) (fun _ _ h => h))
      refine ⟨w', fr, _, hs, hfn, hleave, ⟨he.pres.os, he.pres.tape, he.pres.output, he.pres.size, fun b hb _ => he.pres.block b hb mut_nil, he.pres.lp⟩, ?_⟩
      obtain ⟨bs, a1, a2, a3, a4, a5⟩ := closeAll_res st' vs fn.resultTypes.toList vs 0 (fun j p hp => by simpa using hp) hqs hus
      have a6 : ResL C w' (fun e b => (B0 e b ∨ (w.heap.size ≤ b ∧ typed w' b e)) ∧ b ∉ bs) qs us bs := a1.restrict (fun q hq e b he hb => ⟨hb, fun hin => by
        obtain ⟨j, e', _, hinf, hno⟩ := a4 b hin
        have hty : typed w' b e := by
          rcases hb with hb | hb
          · have := hB0 e b hb
            have := hinf.1
            omega
          · exact hb.2
        obtain ⟨_, ⟨cur, fz, hh⟩, _, _⟩ := id hinf
        have := typed_eq hty hh
        subst this
        obtain ⟨i, hi⟩ := List.mem_iff_getElem?.1 hq
        by_cases hij : i = j
        · subst hij
          rw [hno q (by simpa using hi)] at he
          cases he
        · obtain ⟨p, t, hp, hc⟩ := a5 i q hi
          obtain ⟨c, hc1, hc2⟩ := closeRes_has hc
          have hoff := hinf.off (by simpa using hp) hij
          unfold offOwn at hoff
          rw [hc1] at hoff
          simp [hc2 e he] at hoff⟩)
      have hbs : ∀ b ∈ bs, w.heap.size ≤ b := fun b hb => by
        obtain ⟨j, e, _, hinf, _⟩ := a4 b hb
        exact hinf.1
      match qs, us, a6 with
      | [q], [u], a6 =>
        by_cases ht : ∃ l, q = .tup l
        · obtain ⟨l, rfl⟩ := ht
          exfalso
          obtain ⟨p, t, _, hc⟩ := a5 0 _ rfl
          exact closeRes_notTup hc
        · exact ⟨[q], [u], bs, .inr ⟨fun l h => ht ⟨l, h⟩, rfl, rfl⟩, a2, hbs, a6⟩
      | [], [], a6 => exact ⟨[], [], bs, .inl ⟨rfl, rfl⟩, a2, hbs, a6⟩
      | q :: q2 :: qs, u :: u2 :: us, a6 => exact ⟨_, _, bs, .inl ⟨rfl, rfl⟩, a2, hbs, a6⟩
      | [q], u :: u2 :: us, a6 => cases a6 with
        | plain _ _ h => cases h
        | own0 h => cases h
        | own _ _ _ _ _ _ _ h => cases h
      | q :: q2 :: qs, [u], a6 => cases a6 with
        | plain _ _ h => cases h
        | own0 h => cases h
        | own _ _ _ _ _ _ _ h => cases h
    · cases h
end
end Go.PI

end
section
/- The pure interpreter and its simulation, part 21. -/
set_option linter.unusedSimpArgs false
set_option linter.unusedVariables false
namespace Go.PI
section steps
variable {P : Program} {b : Frame} {a : Act} {k : List Item} {cs : List Frame} {w w' : World} {ops : Array Oper} {i : Nat} {rest : List Nat} {o : Oper}
theorem step_value (ho : ops[i]? = some o) (hw : Region.wanted o (yielded ops a.tmps) = true) (hd : ∀ c, o.op ≠ .defer c) {n : Next} {v : Value} (hr : (execOp a.eval o).run P w = .ok n w') (hn : n = .value v ∨ n = .skip ∧ v = undef) :
    step P (lone (b.atR a (.inRegion ops (i :: rest) :: k)) cs w) = .next (lone (b.atR (a.put o.dst v) (.inRegion ops rest :: k)) cs w') := by
  have hfin : ∀ v, (b.atR a (.inRegion ops (i :: rest) :: k)).finish v = b.atR (a.put o.dst v) (.inRegion ops rest :: k) := by
    intro v; rw [Frame.finish_atR, ho]; rfl
  refine step_lone_go ?_
  rw [stepGR_op ho hw, Oper.semAt_eq _ _ _ hd, ← hfin]
  rcases hn with rfl | ⟨rfl, rfl⟩ <;> simp [stepG.apply, hr]
/-- The frame that an operation's outcome enters. -/
def went (P : Program) : Next → Option Frame
  | .enter f args => some (Frame.enter P f args .normal)
  | .round l f tmps assign body => some (Frame.round l f tmps assign body .normal)
  | _ => none
theorem step_went (ho : ops[i]? = some o) (hw : Region.wanted o (yielded ops a.tmps) = true) (hd : ∀ c, o.op ≠ .defer c) {n : Next} {fr : Frame} (hr : (execOp a.eval o).run P w = .ok n w') (hn : went P n = some fr) :
    step P (lone (b.atR a (.inRegion ops (i :: rest) :: k)) cs w) = .next (lone fr (b.atR a (.inRegion ops (i :: rest) :: k) :: cs) w') := by
  refine step_lone_go ?_
  rw [stepGR_op ho hw, Oper.semAt_eq _ _ _ hd]
  cases n <;> simp only [went, Option.some.injEq] at hn <;> first | (cases hn; done) | (subst hn; simp [stepG.apply, hr, Frame.atR])
end steps
section
variable {C : Cfg} {w w' : World} {B B0 B1 B2 : Nat → Nat → Prop} {Bs base s0 : Nat} {μ μ' : Mu} {H H' Hb : List HO} {a : Act} {g : List PV} {rec : Rec}

theorem run_enter (hok : Ok C) {f : FuncId} (h : ∃ fn c, C.P.funcs[f]? = some fn ∧ fn.body = some c) (args : Array Value) (w : World) : (callFunc f args).run C.P w = .ok (.enter f args) w := by
  obtain ⟨fn, c, hf, hb⟩ := h
  have h1 : fn.name ≠ "runtime.NumGoroutine" := by simpa using (hok.prog f fn c hf hb).1
  simp [callFunc, hf, h1, hb]

/-- A closed call, from the heap. -/
theorem call_core (hok : Ok C) (hr : RecSim C rec) (st : St C B Bs μ Hb w) (hs : HSim H Hb) (hnew : ∀ r l o, H.length ≤ r → μ r = some l → Hb[r]? = some o → writable o = true) {k : FuncId} {ps cargs : List PV} {vargs : Array Value}
    (hcl : mapO (close H 6) ps = some cargs) (hps : RelL w (Bn B Bs μ Hb w) μ ps vargs.toList) {q v : PV} (hq : pcall C rec k cargs = some q) (hcalm : ∀ r o, r < H.length → Hb[r]? = some o → calmO q o = true) {m : Nat} {new : List HO}
    (hrec : recv C m q = some (v, new)) (hle : ∀ (j : Nat) (o : HO), new[j]? = some o → Hb[m + j]? = some o) (hm : ∀ r, m ≤ r → r < m + new.length → μ r = none) :
    (callFunc k vargs).run C.P w = .ok (.enter k vargs) w ∧ ∀ c cs, ∃ u w' μ', Steps C.P (lone (Frame.enter C.P k vargs .normal) (c :: cs) w) (lone (c.finish u) cs w') ∧ St C B Bs μ' Hb w' ∧ Ext μ Hb w μ' Hb w' ∧ Rel w' (Bn B Bs μ' Hb w') μ' v u ∧
      ∀ r, (r < m ∨ m + new.length ≤ r) → μ' r = μ r := by
  obtain ⟨hen, hcall⟩ := pcall_sim hok hr hq
  refine ⟨run_enter hok hen _ _, fun c cs => ?_⟩
  have hc := close_rel (B0 := callB B Bs μ H.length w) st hs (callB_bn hnew st) (fun r l e cs row s hr hmu hk ho => callB_row st hr hmu hk ho hnew) 6
  have hargs := mapO_rel hc hcl hps
  obtain ⟨w', fr, u, h1, h2, h3, h4, h5⟩ := hcall w (callB B Bs μ H.length w) vargs (fun e b h => callB_lt st h) (fun n e cs hn => by
    have := st.glob n e cs hn
    exact hc (.lptr e cs) (.lptr e cs) _ this rfl) hargs (c :: cs)
  obtain ⟨μ', k1, k2, k3, k4⟩ := receive st h4 h5 hcalm hrec hle hm
  exact ⟨u, w', μ', Steps.trans h1 (.one (step_leave_returned h3)), k1, k2, k3, k4⟩

/-- What the call of a function value comes to in the model. -/
def CallSim (C : Cfg) (B : Nat → Nat → Prop) (Bs : Nat) (uf : Value) (vargs : Array Value) (H : List HO) (μ : Mu) (w : World) (v : PV) (H' : List HO) : Prop :=
  ∃ n fr, (do let d ← Deferred.ofValue uf vargs; invoke d.target d.args : Sem Next).run C.P w = .ok n w ∧ went C.P n = some fr ∧
    ∀ c cs, ∃ u w' μ', Steps C.P (lone fr (c :: cs) w) (lone (c.finish u) cs w') ∧ St C B Bs μ' H' w' ∧ Ext μ H w μ' H' w' ∧ Rel w' (Bn B Bs μ' H' w') μ' v u

theorem bind2_rel {B' : Nat → Nat → Prop} : ∀ {ps : List Tmp} {g args : List PV} {tmps : Array Value} {vargs : List Value}, RelL w B' μ g tmps.toList → RelL w B' μ args vargs →
    RelL w B' μ (bind2 g ps args) ((ps.zip vargs).foldl (fun (tmps : Array Value) (x : Tmp × Value) => tmps.setIfInBounds x.1 x.2) tmps).toList
  | [], g, args, tmps, vargs, hg, ha => by
    unfold bind2
    simpa using hg
  | t :: ps, g, [], tmps, vargs, hg, ha => by
    have : vargs = [] := List.eq_nil_of_length_eq_zero (by have := ha.1; simpa using this)
    subst this
    unfold bind2
    simpa using hg
  | t :: ps, g, p :: args, tmps, vargs, hg, ha => by
    obtain ⟨u, us, rfl, h1, h2⟩ := ha.cons_inv
    simp only [bind2, List.zip_cons_cons, List.foldl_cons]
    exact bind2_rel (by rw [Array.toList_setIfInBounds]; exact hg.set t h1) h2
theorem St.loopAt (st : St C B Bs μ H w) {r : Nat} {l : Loc} (hr : μ r = some l) {s : LoopState} {pend : Option Code} {g : List PV} {ps : List Tmp} {as bo : Code} (ho : H[r]? = some (.loop s pend g ps as bo)) :
    l.blk = true ∧ ∃ L : Loop, w.heap[l.g]? = some (Obj.loop L) ∧ L.state = s ∧ L.pending = pend ∧ L.params.toList = ps ∧ L.assign = as ∧ L.body = bo ∧ RelL w (Bn B Bs μ H w) μ g L.tmps.toList ∧ codeOk as = true ∧ codeOk bo = true := by
  obtain ⟨o, ho', hobj⟩ := st.obj r l hr
  rw [ho] at ho'
  cases ho'
  cases hobj with
  | loop hk hh h1 h2 h3 h4 h5 h6 h7 h8 => exact ⟨hk, _, hh, h1, h2, h3, h4, h5, h6, h7, h8⟩
theorem St.setLoop (st : St C B Bs μ H w) {r : Nat} {l : Loc} (hr : μ r = some l) {s : LoopState} {pend : Option Code} {g : List PV} {ps : List Tmp} {as bo : Code} (ho : H[r]? = some (.loop s pend g ps as bo)) (s' : LoopState) (pend' : Option Code) :
    ∃ L : Loop, w.heap[l.g]? = some (Obj.loop L) ∧ L.state = s ∧ L.pending = pend ∧ St C B Bs μ (H.set r (.loop s' pend' g ps as bo)) (w.putObj l.g (.loop { L with state := s', pending := pend' })) ∧
      Ext μ H w μ (H.set r (.loop s' pend' g ps as bo)) (w.putObj l.g (.loop { L with state := s', pending := pend' })) := by
  obtain ⟨hk, L, hh, h1, h2, h3, h4, h5, h6, h7, h8⟩ := st.loopAt hr ho
  obtain ⟨st', he⟩ := st.write hr ho rfl hk (w' := w.putObj l.g (.loop { L with state := s', pending := pend' })) (pres_setObj w l.g _ (.inr ⟨_, rfl⟩)) (o' := .loop s' pend' g ps as bo) rfl
    (fun B' hm => .loop hk (World.putObj_heap_same (Array.getElem?_eq_some_iff.1 hh).1) rfl rfl h3 h4 h5 ⟨h6.1, fun i p u hp hu => hm _ _ (h6.2 i p u hp hu)⟩ h7 h8)
  exact ⟨L, hh, h1, h2, st', he⟩

/-- yield is called: a round. -/
theorem yield_sim (hr : RecSim C rec) (st : St C B Bs μ H w) {r : Nat} {uf : Value} {args : List PV} {vargs : Array Value} {v : PV} (hf : Rel w (Bn B Bs μ H w) μ (.yld r) uf) (ha : RelL w (Bn B Bs μ H w) μ args vargs.toList)
    (h : yieldP rec r args H = some (v, H')) : CallSim C B Bs uf vargs H μ w v H' := by
  unfold yieldP at h
  split at h
  · rename_i pend g params assign body ho
    split at h
    · rename_i hlen
      split at h
      · rename_i g2 H2 ha2
        split at h
        · rename_i p2 g3 ps3 as3 bo3 ho2
          split at h
          · rename_i x g4 H4 hb4
            split at h
            · rename_i s5 p5 g5 ps5 as5 bo5 ho4
              cases h
              cases hf with
              | @yld _ _ l hmu =>
                obtain ⟨hk, L, hh, e1, e2, e3, e4, e5, e6, e7, e8⟩ := st.loopAt hmu ho
                have hsz : vargs.size = L.params.size := by
                  have h1 := ha.1
                  have h2 : L.params.size = params.length := by rw [← e3]; simp
                  rw [h2, ← hlen, ← h1]
                  simp
                have hrun := run_yield (P := C.P) hh hsz
                refine ⟨.round l.g L.fn ((L.params.zip vargs).foldl (fun tmps (t, a) => tmps.setIfInBounds t a) L.tmps) L.assign L.body, _, ?_, rfl, fun c cs => ?_⟩
                · simp only [Deferred.ofValue, Sem.run_bind, Sem.run_pure, Result.andThen_ok, invoke, Array.empty_append]
                  exact hrun
                · let b : Frame := { (default : Frame) with fn := L.fn, kind := .normal, roundOf := some l.g }
                  let tmps := (L.params.zip vargs).foldl (fun tmps (t, a) => tmps.setIfInBounds t a) L.tmps
                  have hb0 : Frame.round l.g L.fn tmps L.assign L.body .normal = b.atR { tmps := tmps, defers := [] } ([.code L.assign] ++ [.beginRound, .code L.body]) := by
                    simp [Frame.round, Frame.atR, b]
                  have htm : RelL w (Bn B Bs μ H w) μ (bind2 g params args) tmps.toList := by
                    have := bind2_rel (ps := params) e6 ha
                    rw [← e3] at this
                    rw [← e3]
                    have e9 : tmps = (L.params.toList.zip vargs.toList).foldl (fun (tmps : Array Value) (x : Tmp × Value) => tmps.setIfInBounds x.1 x.2) L.tmps := by
                      simp only [tmps]
                      rw [← Array.toList_zip, Array.foldl_toList]
                    rw [e9]
                    exact this
                  subst e4
                  subst e5
                  obtain ⟨μ1, w1, a1, st1, he1, hg1, hd1, harr1⟩ := hr _ _ H _ _ _ ha2 B Bs μ w b { tmps := tmps, defers := [] } [.code L.assign] [.beginRound, .code L.body] (c :: cs) w.heap.size (.code _) e7 st htm ⟨[], rfl, List.nodup_nil, fun D h => by cases h⟩ (fun l' hl' => by cases hl'; exact ⟨L, hh⟩) (Nat.le_refl _)
                  have hmu1 := he1.mu r l hmu
                  obtain ⟨L2, hh2, s2, q2, st2, he2⟩ := st1.setLoop hmu1 ho2 .busy p2
                  have hbr := run_beginRound (P := C.P) hh2 s2
                  have hL2 : ({ L2 with state := .busy, pending := p2 } : Loop) = { L2 with state := .busy } := by rw [← q2]
                  rw [hL2] at st2 he2
                  obtain ⟨μ3, w3, a3, st3, he3, hg3, hd3, harr3⟩ := hr _ _ _ _ _ _ hb4 B Bs μ1 _ b a1 [.code L.body] [] (c :: cs) w.heap.size (.code _) e8 st2 (st1.relL he2 hg1) (hd1.ext st1 he2) (RoundOk.ext (RoundOk.ext (fun l' hl' => by cases hl'; exact ⟨L, hh⟩) he1) he2) (Nat.le_trans he1.pres.size he2.pres.size)
                  have hmu3 := he3.mu r l hmu1
                  obtain ⟨L4, hh4, s4, q4, st4, he4⟩ := st3.setLoop hmu3 ho4 (if (jumpOf x).isNone then .ready else .done) (jumpOf x)
                  have hend := run_endRound (P := C.P) (jumpOf x) hh4
                  refine ⟨.bool (jumpOf x).isNone, _, μ3, ?_, st4, ((he1.trans he2).trans he3).trans he4, .s rfl⟩
                  rw [hb0]
                  refine Steps.trans harr1 (Steps.trans (.one (stepR_beginRound rfl hbr)) ?_)
                  cases x with
                  | normal => exact Steps.trans harr3 (.one (stepR_round_end rfl rfl hend))
                  | ret =>
                    obtain ⟨k', hs⟩ := harr3
                    exact Steps.trans hs (.one (stepR_round_ret rfl rfl hend))
                  | exit id =>
                    obtain ⟨k', hk', hs⟩ := harr3
                    exact Steps.trans hs (.one (stepR_round_exit rfl rfl hk' hend))
                  | goto t =>
                    obtain ⟨k', hk', hs⟩ := harr3
                    exact Steps.trans hs (.one (stepR_round_goto rfl rfl hk' hend))
            · cases h
          · cases h
        · cases h
      · cases h
    · cases h
  · cases h
end
end Go.PI

end
