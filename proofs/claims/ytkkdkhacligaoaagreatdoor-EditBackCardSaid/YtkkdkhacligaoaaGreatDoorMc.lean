/- The pure interpreter of the dump's language and the proof that the model does what it does, texts V to Zc, for any program. -/
import Derived.Test.YtkkdkhacligaoaaGreatDoorMb
import Derived.Orders
import Derived.Below
import Derived.Lib.LaidTab
section
/- The pure interpreter and its simulation, part 22. -/
set_option linter.unusedSimpArgs false
set_option linter.unusedVariables false
namespace Go.PI
section
variable {C : Cfg} {w w' : World} {B B0 B1 B2 : Nat → Nat → Prop} {Bs base s0 : Nat} {μ μ' : Mu} {H H' Hb : List HO} {a : Act} {g : List PV} {rec : Rec}

theorem fn_args {B' : Nat → Nat → Prop} {k : FuncId} {first caps args : List PV} {vargs : Array Value} {uf : Value} (hf : Rel w B' μ (.fn k first caps) uf) (ha : RelL w B' μ args vargs.toList) :
    ∃ vf vc, uf = .func (.func k) vf vc ∧ RelL w B' μ (first ++ args ++ caps) (vf ++ vargs ++ vc).toList := by
  cases hf with
  | @fn _ _ _ _ vf vc hl1 hl2 hr1 hr2 =>
    refine ⟨vf, vc, rfl, ?_⟩
    rw [Array.toList_append, Array.toList_append]
    exact (RelL.append ⟨by simpa using hl1, fun i p u hp hu => hr1 i p u hp (by simpa using hu)⟩ ha).append ⟨by simpa using hl2, fun i p u hp hu => hr2 i p u hp (by simpa using hu)⟩
theorem run_callee {P : Program} {k : FuncId} {vf vc vargs : Array Value} {n : Next} (h : (callFunc k (vf ++ vargs ++ vc)).run P w = .ok n w) :
    (do let d ← Deferred.ofValue (.func (.func k) vf vc) vargs; invoke d.target d.args : Sem Next).run P w = .ok n w := by
  simp only [Deferred.ofValue, Sem.run_bind, Sem.run_pure, Result.andThen_ok, invoke]
  exact h

theorem callV_sim (hok : Ok C) (hr : RecSim C rec) (st : St C B Bs μ H w) {pf : PV} {uf : Value} {args : List PV} {vargs : Array Value} {v : PV} (hf : Rel w (Bn B Bs μ H w) μ pf uf) (ha : RelL w (Bn B Bs μ H w) μ args vargs.toList)
    (h : callV C rec pf args H = some (v, H')) : CallSim C B Bs uf vargs H μ w v H' := by
  unfold callV at h
  split at h
  · rename_i k first caps
    obtain ⟨vf, vc, rfl, hrel⟩ := fn_args hf ha
    split at h
    · rename_i hinl
      have key : ∀ {vs : List PV} {H1 : List HO}, ((∃ fn c, C.P.funcs[k]? = some fn ∧ fn.body = some c) ∧ FnSim C k (first ++ args ++ caps) H vs H1) → CallSim C B Bs (.func (.func k) vf vc) vargs H μ w (tupOf vs) H1 := by
        rintro vs H1 ⟨hen, hsim⟩
        refine ⟨_, _, run_callee (run_enter hok hen _ _), rfl, fun c cs => ?_⟩
        obtain ⟨μ', w', fr, us, h1, h2, h3, h4, h5, h6⟩ := hsim B Bs μ w _ (c :: cs) st hrel
        exact ⟨_, w', μ', Steps.trans h1 (.one (step_leave_returned h3)), h4, h5, tupOf_rel h6⟩
      split at h
      · rename_i vs H1 hx
        cases h
        exact key (hok.hext _ _ _ _ _ hx)
      · unfold icall at h
        obtain ⟨⟨vs, H1⟩, hb, he⟩ := Option.map_eq_some_iff.1 h
        cases he
        exact key (fn_sim hok hr hb)
    · rename_i hinl
      split at h
      · rename_i cargs hcl
        split at h
        · rename_i q hq
          split at h
          · rename_i v' new hrec
            cases h
            obtain ⟨st1, he1⟩ := st.shutAll q
            have st2 := st1.grow new
            have he2 := st1.ext_grow new
            have hlen : (sealH H q).length = H.length := by simp [sealH]
            obtain ⟨h1, h2⟩ := call_core hok hr st2 (sim_seal H new q) (fun r l o hr hmu _ => by have := st.lt hmu; omega) hcl (st1.relL he2 (st.relL he1 hrel)) hq (fun r o hr ho => by
                rw [List.getElem?_append_left (by rw [hlen]; exact hr)] at ho
                obtain ⟨o', _, rfl⟩ := sealH_get ho
                exact calm_seal q o') hrec (fun j o hj => by rw [List.getElem?_append_right (by omega), hlen, Nat.add_sub_cancel_left]; exact hj) (fun r hr _ => st.fresh hr)
            refine ⟨_, _, run_callee h1, rfl, fun c cs => ?_⟩
            obtain ⟨u, w', μ', k1, k2, k3, k4, _⟩ := h2 c cs
            exact ⟨u, w', μ', k1, k2, (he1.trans he2).trans k3, k4⟩
          · cases h
        · cases h
      · cases h
  · exact yield_sim hr st hf ha h
  · cases h

/-- A step of an operation that writes nothing that was there: in a heap Hb of which H and what the operation lays are a part. -/
def DStep (C : Cfg) (B : Nat → Nat → Prop) (Bs : Nat) (a : Act) (o : Oper) (Hb : List HO) (μ : Mu) (w : World) (m k : Nat) (v : PV) : Prop :=
  ∀ (b : Frame) (ops : Array Oper) (i : Nat) (rest : List Nat) (todo : List Item) (cs : List Frame), ops[i]? = some o → Region.wanted o (yielded ops a.tmps) = true →
    ∃ u w' μ', Steps C.P (lone (b.atR a (.inRegion ops (i :: rest) :: todo)) cs w) (lone (b.atR (a.put o.dst u) (.inRegion ops rest :: todo)) cs w') ∧ St C B Bs μ' Hb w' ∧ Ext μ Hb w μ' Hb w' ∧ Rel w' (Bn B Bs μ' Hb w') μ' v u ∧ ∀ r, (r < m ∨ m + k ≤ r) → μ' r = μ r
theorem qop_noDefer {o : Oper} {x} (h : qop C o g H = some x) : ∀ c, o.op ≠ .defer c := by
  intro c hc
  unfold qop at h
  simp [hc] at h
theorem mop_noDefer {o : Oper} {x} (h : mop C rec o g H = some x) : ∀ c, o.op ≠ .defer c := by
  intro c hc
  unfold mop at h
  simp [hc] at h
theorem qop_step (st : St C B Bs μ Hb w) {o : Oper} {v : PV} {new : List HO} (h : qop C o g H = some (v, new)) (hle : HLe (H ++ new) Hb) (hm : ∀ r, H.length ≤ r → r < H.length + new.length → μ r = none)
    (hx : ∀ x ∈ o.op.operands.toList, Rel w (Bn B Bs μ Hb w) μ (opnd C g x) (a.eval x)) : DStep C B Bs a o Hb μ w H.length new.length v := by
  intro b ops i rest todo cs ho hw
  obtain ⟨u, w', μ', h1, h2, h3, h4, h5⟩ := qop_sim st h hle hm hx
  exact ⟨u, w', μ', .one (step_value ho hw (qop_noDefer h) h1 (.inl rfl)), h2, h3, h4, h5⟩
theorem finish_op {b : Frame} {ops : Array Oper} {i : Nat} {rest : List Nat} {todo : List Item} {o : Oper} (ho : ops[i]? = some o) (v : Value) : (b.atR a (.inRegion ops (i :: rest) :: todo)).finish v = b.atR (a.put o.dst v) (.inRegion ops rest :: todo) := by
  rw [Frame.finish_atR, ho]; rfl
theorem exec_value {o : Oper} {c : Call} {f : Operand} {P : Program} {n : Next} (ho : o.op = .call c) (hc : c.callee = .value f) (h : (do let d ← Deferred.ofValue (a.eval f) (c.args.map a.eval); invoke d.target d.args : Sem Next).run P w = .ok n w) :
    (execOp a.eval o).run P w = .ok n w := by
  simp only [execOp, ho, resolve, hc]
  exact h
theorem dop_sim (hok : Ok C) (hr : RecSim C rec) (st : St C B Bs μ Hb w) {o : Oper} {v : PV} {new : List HO} (h : dop C rec o g H = some (v, new)) (hle : HLe (H ++ new) Hb) (hm : ∀ r, H.length ≤ r → r < H.length + new.length → μ r = none)
    (hnew : ∀ r l o, H.length ≤ r → μ r = some l → Hb[r]? = some o → writable o = true)
    (hx : ∀ x ∈ o.op.operands.toList, Rel w (Bn B Bs μ Hb w) μ (opnd C g x) (a.eval x)) : DStep C B Bs a o Hb μ w H.length new.length v := by
  unfold dop at h
  split at h
  · rename_i c ho
    split at h
    · rename_i f hc
      unfold qcallV at h
      split at h
      · rename_i k first caps hpf
        split at h
        · cases h
        · split at h
          · rename_i cargs hcl
            split at h
            · rename_i q hq
              split at h
              · rename_i hcalm
                intro b ops i rest todo cs hoi hw
                have hf : Rel w (Bn B Bs μ Hb w) μ (opnd C g f) (a.eval f) := hx f (by simp [ho, Op.operands, Call.operands, hc])
                have hargs : RelL w (Bn B Bs μ Hb w) μ (c.args.toList.map (opnd C g)) (c.args.map a.eval).toList := relA fun x hx' => hx x (by simp [ho, Op.operands, Call.operands]; exact .inr (by simpa using hx'))
                rw [hpf] at hf
                obtain ⟨vf, vc, huf, hrel⟩ := fn_args hf hargs
                have hH : HLe H Hb := (HLe.append H new).trans hle
                obtain ⟨h1, h2⟩ := call_core hok hr st hH.sim hnew hcl hrel hq (fun r o hr' ho' => by
                    have hro : H[r]? = some H[r] := List.getElem?_eq_getElem hr'
                    have := hH r _ hro
                    rw [ho'] at this
                    cases this
                    exact List.all_eq_true.1 hcalm _ (List.getElem_mem hr')) h (fun j o hj => hle.new hj) hm
                obtain ⟨u, w', μ', k1, k2, k3, k4, k5⟩ := h2 (b.atR a (.inRegion ops (i :: rest) :: todo)) cs
                rw [finish_op hoi] at k1
                exact ⟨u, w', μ', .head (step_went hoi hw (fun c' hc' => by rw [ho] at hc'; cases hc') (exec_value ho hc (by rw [huf]; exact run_callee h1)) rfl) k1, k2, k3, k4, k5⟩
              · cases h
            · cases h
          · cases h
      · cases h
    · exact qop_step st h hle hm hx
    · cases h
  · exact qop_step st h hle hm hx

/-- A temporary is closed, and written no more. -/
theorem frzT_sim (st : St C B Bs μ H w) (hg : RelL w (Bn B Bs μ H w) μ g a.tmps.toList) {k : Tmp} {g1 : List PV} {H1 : List HO} (h : frzT k g H = some (g1, H1)) :
    ∃ μ', St C B Bs μ' H1 w ∧ Ext μ H w μ' H1 w ∧ RelL w (Bn B Bs μ' H1 w) μ' g1 a.tmps.toList := by
  unfold frzT at h
  split at h
  · rename_i hrow
    obtain ⟨q, hq, he⟩ := Option.map_eq_some_iff.1 h
    cases he
    cases hgk : g[k]? with
    | none =>
      have : g.getD k undefP = undefP := by simp [hgk]
      rw [this] at hrow
      cases hrow
    | some p =>
      have hgd : g.getD k undefP = p := by simp [hgk]
      rw [hgd] at hrow hq
      obtain ⟨u, hu, hr⟩ := hg.get hgk
      obtain ⟨st1, he1⟩ := st.shutAll q
      have hs : HSim H (sealH H q) := by simpa using sim_seal H [] q
      have hln : (sealH H q).length = H.length := by simp [sealH]
      have hnone : ∀ r l o, H.length ≤ r → μ r = some l → (sealH H q)[r]? = some o → writable o = true := by
        intro r l o hr' hmu _
        have := st.lt hmu
        omega
      have hrel : Rel w (callB B Bs μ H.length w) mu0 q u := close_rel st1 hs (callB_bn hnone st1) (fun r l e cs row s hlt hmu hk ho => callB_row st1 hlt hmu hk ho hnone) 6 p q u (st.rel he1 hr) hq
      have hnt : ∀ l, q ≠ .tup l := by
        rintro l rfl
        obtain ⟨vs, rfl⟩ := close_notTup hq
        cases hrow
      have hrec : recv C H.length q = some (q, []) := by
        have hno := close_notOwn hq
        cases q with
        | tup l => exact absurd rfl (hnt l)
        | own e n cs => cases hno
        | _ => rfl
      have hcalm : ∀ r o, r < H.length → (sealH H q)[r]? = some o → calmO q o = true := by
        intro r o _ ho
        obtain ⟨o', _, rfl⟩ := sealH_get ho
        exact calm_seal q o'
      obtain ⟨μ', k1, k2, k3, k4⟩ := receive st1 (.refl _ _) (n := H.length) (q := q) (u := u) ⟨[q], [u], [], .inr ⟨hnt, rfl, rfl⟩, List.nodup_nil, fun b hb => by simp at hb, .plain (close_notOwn hq) (hrel.imp (fun e b hb => ⟨⟨.inl hb, by simp⟩, rfl⟩) (fun _ _ h => h)) .nil⟩ hcalm (m := H.length) hrec (fun j o hj => by simp at hj) (fun r h1 h2 => by simp at h2; omega)
      refine ⟨μ', k1, he1.trans k2, ?_⟩
      have hgg := st.relL (he1.trans k2) hg
      have := hgg.set k k3
      have hset : a.tmps.toList.set k u = a.tmps.toList := by
        apply List.ext_getElem?
        intro j
        rw [List.getElem?_set]
        split
        · rename_i hj
          subst hj
          rw [hu]
          split
          · rfl
          · rename_i hlt
            have := (List.getElem?_eq_some_iff.1 hu).1
            exact absurd this hlt
        · rfl
      rw [hset] at this
      exact this
  · cases h
    exact ⟨μ, st, .refl _ _ _, hg⟩
theorem prep_sim (st : St C B Bs μ H w) (hg : RelL w (Bn B Bs μ H w) μ g a.tmps.toList) {o : Oper} {g1 : List PV} {H1 : List HO} (h : prepP C o g H = some (g1, H1)) :
    ∃ μ', St C B Bs μ' H1 w ∧ Ext μ H w μ' H1 w ∧ RelL w (Bn B Bs μ' H1 w) μ' g1 a.tmps.toList := by
  unfold prepP at h
  split at h
  · split at h
    · split at h
      · exact frzT_sim st hg h
      · cases h; exact ⟨μ, st, .refl _ _ _, hg⟩
    · cases h; exact ⟨μ, st, .refl _ _ _, hg⟩
  · exact frzT_sim st hg h
  · cases h; exact ⟨μ, st, .refl _ _ _, hg⟩
/-- One operation, in its turn. -/
theorem opStep_sim (hok : Ok C) (hr : RecSim C rec) (st : St C B Bs μ H w) (hg : RelL w (Bn B Bs μ H w) μ g a.tmps.toList) {draw : Bool} {ops : Array Oper} {o : Oper} {g' : List PV} {i : Nat} (hoi : ops[i]? = some o) (h : opStep C rec draw ops o g H = some (g', H'))
    (b : Frame) (rest : List Nat) (todo : List Item) (cs : List Frame) :
    ∃ w' μ' a', Steps C.P (lone (b.atR a (.inRegion ops (i :: rest) :: todo)) cs w) (lone (b.atR a' (.inRegion ops rest :: todo)) cs w') ∧ St C B Bs μ' H' w' ∧ Ext μ H w μ' H' w' ∧ RelL w' (Bn B Bs μ' H' w') μ' g' a'.tmps.toList ∧ a'.defers = a.defers := by
  have hx : ∀ x ∈ o.op.operands.toList, Rel w (Bn B Bs μ H w) μ (opnd C g x) (a.eval x) := fun x _ => opnd_rel st hg x
  have dfr : ∀ v, (a.put o.dst v).defers = a.defers := fun v => by cases o.dst <;> rfl
  have fin : ∀ {v : PV} {new : List HO}, DStep C B Bs a o (H ++ new) μ w H.length new.length v → Region.wanted o (yielded ops a.tmps) = true → ∃ w' μ' a', Steps C.P (lone (b.atR a (.inRegion ops (i :: rest) :: todo)) cs w) (lone (b.atR a' (.inRegion ops rest :: todo)) cs w') ∧ St C B Bs μ' (H ++ new) w' ∧ Ext μ H w μ' (H ++ new) w' ∧ RelL w' (Bn B Bs μ' (H ++ new) w') μ' (setD g o.dst v) a'.tmps.toList ∧ a'.defers = a.defers := by
    intro v new hd hw
    obtain ⟨u, w', μ', k1, k2, k3, k4, _⟩ := hd b ops i rest todo cs hoi hw
    have he := st.ext_grow new
    refine ⟨w', μ', _, k1, k2, he.trans k3, put_rel ?_ _ k4, dfr _⟩
    exact (st.grow new).relL k3 (st.relL he hg)
  unfold opStep at h
  split at h
  · rename_i hwp
    have hw := wanted_rel hg hwp
    split at h
    · split at h
      · rename_i v new hd
        cases h
        exact fin (dop_sim hok hr (st.grow new) hd (HLe.refl _) (fun r hr' _ => st.fresh hr') (fun r l o hr' hmu _ => by have := st.lt hmu; omega) (fun x hx' => st.rel (st.ext_grow new) (hx x hx'))) hw
      · cases h
    · split at h
      · rename_i v new hd
        cases h
        exact fin (qop_step (st.grow new) hd (HLe.refl _) (fun r hr' _ => st.fresh hr') (fun x hx' => st.rel (st.ext_grow new) (hx x hx'))) hw
      · split at h
        · rename_i g1 H0 hpr
          split at h
          · rename_i v H1 hmo
            cases h
            obtain ⟨μ0, st0, he0, hg0⟩ := prep_sim st hg hpr
            have hx0 : ∀ x ∈ o.op.operands.toList, Rel w (Bn B Bs μ0 H0 w) μ0 (opnd C g1 x) (a.eval x) := fun x _ => opnd_rel st0 hg0 x
            rcases mop_sim st0 hmo hx0 with ⟨c, f, ho, hc, hcall⟩ | ⟨n, u, w', μ', h1, h2, h3, h4, h5⟩
            · have hargs : RelL w (Bn B Bs μ0 H0 w) μ0 (c.args.toList.map (opnd C g1)) (c.args.map a.eval).toList := relA fun x _ => opnd_rel st0 hg0 x
              obtain ⟨n, fr, k1, k2, k3⟩ := callV_sim hok hr st0 (opnd_rel st0 hg0 f) hargs hcall
              obtain ⟨u, w', μ', k4, k5, k6, k7⟩ := k3 (b.atR a (.inRegion ops (i :: rest) :: todo)) cs
              rw [finish_op hoi] at k4
              exact ⟨w', μ', _, .head (step_went hoi hw (mop_noDefer hmo) (exec_value ho hc k1) k2) k4, k5, he0.trans k6, put_rel (st0.relL k6 hg0) _ k7, dfr _⟩
            · exact ⟨w', μ', _, .one (step_value hoi hw (mop_noDefer hmo) h1 h2), h3, he0.trans h4, put_rel (st0.relL h4 hg0) _ h5, dfr _⟩
          · cases h
        · cases h
  · rename_i hwp
    cases h
    have hw := wanted_rel hg hwp
    have hs := stepR_op_skip (P := C.P) (b := b) (a := a) (k := todo) (cs := cs) (w := w) (ops := ops) (i := i) (rest := rest) (by simp [hoi, hw])
    rw [hoi] at hs
    exact ⟨w, μ, _, .one hs, st, .refl _ _ _, put_rel hg _ rel_undef, dfr _⟩
  · cases h
/-- Operations in their turn. -/
theorem opsRun_sim (hok : Ok C) (hr : RecSim C rec) {draw : Bool} {ops : Array Oper} (b : Frame) (todo : List Item) (cs : List Frame) : ∀ (l : List Oper) (i : Nat) {g g' : List PV} {H H' : List HO} {μ : Mu} {w : World} {a : Act}, (∀ (j : Nat) (o : Oper), l[j]? = some o → ops[i + j]? = some o) →
    St C B Bs μ H w → RelL w (Bn B Bs μ H w) μ g a.tmps.toList → opsRun C rec draw ops l g H = some (g', H') →
    ∃ w' μ' a', Steps C.P (lone (b.atR a (.inRegion ops (List.range' i l.length) :: todo)) cs w) (lone (b.atR a' (.inRegion ops [] :: todo)) cs w') ∧ St C B Bs μ' H' w' ∧ Ext μ H w μ' H' w' ∧ RelL w' (Bn B Bs μ' H' w') μ' g' a'.tmps.toList ∧ a'.defers = a.defers
  | [], i, g, g', H, H', μ, w, a, _, st, hg, h => by
    cases h
    exact ⟨w, μ, a, Steps.refl _ _, st, .refl _ _ _, hg, rfl⟩
  | o :: l, i, g, g', H, H', μ, w, a, hops, st, hg, h => by
    unfold opsRun at h
    split at h
    · rename_i g1 H1 h1
      obtain ⟨w1, μ1, a1, k1, k2, k3, k4, k5⟩ := opStep_sim hok hr st hg (by simpa using hops 0 o rfl) h1 b (List.range' (i + 1) l.length) todo cs
      obtain ⟨w2, μ2, a2, m1, m2, m3, m4, m5⟩ := opsRun_sim hok hr b todo cs l (i + 1) (fun j o' hj => by
        have := hops (j + 1) o' (by simpa using hj)
        rw [← this]; congr 1; omega) k2 k4 h
      refine ⟨w2, μ2, a2, Steps.trans ?_ m1, m2, k3.trans m3, m4, m5.trans k5⟩
      rw [List.length_cons, List.range'_succ]
      exact k1
    · cases h
end
end Go.PI

end
section
/- The pure interpreter and its simulation, part 23. -/
set_option linter.unusedSimpArgs false
set_option linter.unusedVariables false
namespace Go.PI
/-! ### Regions of open order -/
theorem beforeL_snoc (l : List Oper) (o : Oper) : beforeL (l ++ [o]) = beforeL l ++ [befStep (beforeL l) o] := by
  unfold beforeL
  rw [List.foldl_append]
  rfl
theorem befFold_len : ∀ (l : List Oper) (acc : List Nat), (l.foldl (fun acc o => acc ++ [befStep acc o]) acc).length = acc.length + l.length
  | [], acc => rfl
  | o :: l, acc => by
    rw [List.foldl_cons, befFold_len l]
    simp
    omega
theorem befFold_pre : ∀ (l : List Oper) (acc : List Nat), ∃ r, l.foldl (fun acc o => acc ++ [befStep acc o]) acc = acc ++ r
  | [], acc => ⟨[], by simp⟩
  | o :: l, acc => by
    obtain ⟨r, hr⟩ := befFold_pre l (acc ++ [befStep acc o])
    exact ⟨[befStep acc o] ++ r, by rw [List.foldl_cons, hr, List.append_assoc]⟩
theorem beforeL_fold (l : List Oper) : beforeL l = l.foldl (fun acc o => acc ++ [befStep acc o]) [] := rfl
theorem beforeL_len (l : List Oper) : (beforeL l).length = l.length := by
  rw [beforeL_fold, befFold_len]
  simp
theorem beforeL_pre (l l' : List Oper) : ∃ r, beforeL (l ++ l') = beforeL l ++ r := by
  rw [beforeL_fold, List.foldl_append, ← beforeL_fold]
  exact befFold_pre l' _
theorem foldl_mem {acc : List Nat} {x : Nat} : ∀ {es : List Edge} {s : Nat}, (es.foldl (fun s e => if plainEdge e then s ||| (2 ^ e.on ||| acc.getD e.on 0) else s) s).testBit x = true → s.testBit x = true ∨ ∃ e ∈ es, plainEdge e = true ∧ (x = e.on ∨ (acc.getD e.on 0).testBit x = true)
  | [], s, h => .inl h
  | e :: es, s, h => by
    rw [List.foldl_cons] at h
    rcases foldl_mem h with h | ⟨e', he, h⟩
    · split at h
      · rename_i hp
        rw [Nat.testBit_or, Nat.testBit_or, Nat.testBit_two_pow, Bool.or_eq_true, Bool.or_eq_true] at h
        rcases h with h | h | h
        · exact .inl h
        · exact .inr ⟨e, by simp, hp, .inl (by simpa using (of_decide_eq_true h).symm)⟩
        · exact .inr ⟨e, by simp, hp, .inr h⟩
      · exact .inl h
    · exact .inr ⟨e', by simp [he], h⟩
theorem beforeL_mem {l : List Oper} {j x : Nat} {o : Oper} (ho : l[j]? = some o) (hx : ((beforeL l).getD j 0).testBit x = true) : ∃ e ∈ o.after.toList, plainEdge e = true ∧ (x = e.on ∨ ((beforeL l).getD e.on 0).testBit x = true) := by
  have hlt := (List.getElem?_eq_some_iff.1 ho).1
  have hsplit : l = (l.take j ++ [o]) ++ l.drop (j + 1) := by
    have : o = l[j] := (List.getElem?_eq_some_iff.1 ho).2.symm
    subst this
    rw [List.append_assoc, List.singleton_append, List.getElem_cons_drop, List.take_append_drop]
  obtain ⟨r, hr⟩ := beforeL_pre (l.take j ++ [o]) (l.drop (j + 1))
  rw [← hsplit, beforeL_snoc] at hr
  have hlen : (beforeL (l.take j)).length = j := by rw [beforeL_len, List.length_take]; omega
  have hj : (beforeL l).getD j 0 = befStep (beforeL (l.take j)) o := by
    rw [hr, List.append_assoc, List.getD_eq_getElem?_getD, List.getElem?_append_right (by omega), hlen]
    simp
  rw [hj] at hx
  rcases foldl_mem hx with h | ⟨e, he, hp, h⟩
  · simp at h
  · refine ⟨e, he, hp, h.imp id (fun h => ?_)⟩
    rw [hr, List.append_assoc, List.getD_eq_getElem?_getD]
    rw [List.getD_eq_getElem?_getD] at h
    rcases Nat.lt_or_ge e.on j with hej | hej
    · rw [List.getElem?_append_left (by omega)]; exact h
    · rw [List.getElem?_eq_none (by omega)] at h; simp at h

/-- What 'drawOk' says. -/
structure DrawOk (ops : Array Oper) (m : Nat) : Prop where
  edge : ∀ (j : Nat) (o : Oper), ops[j]? = some o → ∀ e ∈ o.after.toList, plainEdge e = true → e.on < j
  rank : ∀ md : Region.Mode, ∃ rk : Nat → Nat, ∀ (j : Nat) (o : Oper), ops[j]? = some o → ∀ e ∈ o.after.toList, Region.binds md e = true → e.on < ops.size ∧ rk e.on < rk j
  tail : ∀ (j : Nat) (o : Oper), ops[j]? = some o → m ≤ j → ∀ i, i < j → ((beforeL ops.toList).getD j 0).testBit i = true
  dsts : ∀ (j i : Nat) (o o' : Oper), j < m → i < m → ops[j]? = some o → ops[i]? = some o' → i ≠ j → ∀ d, o.dst = some d → o'.dst ≠ some d
  reads : ∀ (j i : Nat) (o o' : Oper), j < m → i < m → ops[j]? = some o → ops[i]? = some o' → ∀ t ∈ opTmps o ++ guardTmp ops.toList o, o'.dst = some t → ((beforeL ops.toList).getD j 0).testBit i = true ∨ ((beforeL ops.toList).getD i 0).testBit j = true
  quiet : ∀ (j : Nat) (o : Oper), j < m → ops[j]? = some o → quiet o = true
  le : m ≤ ops.size
theorem firstLoud_le : ∀ (l : List Oper), firstLoud l ≤ l.length
  | [] => Nat.le_refl _
  | o :: l => by
    unfold firstLoud
    split
    · simpa using firstLoud_le l
    · exact Nat.zero_le _
theorem firstLoud_quiet : ∀ (l : List Oper) (j : Nat) (o : Oper), j < firstLoud l → l[j]? = some o → quiet o = true
  | [], j, o, h, ho => by cases ho
  | x :: l, j, o, h, ho => by
    unfold firstLoud at h
    split at h
    · rename_i hx
      cases j with
      | zero => simp at ho; subst ho; exact hx
      | succ j => exact firstLoud_quiet l j o (by omega) (by simpa using ho)
    · omega
theorem zipIdx_mem {α : Type} {l : List α} {j : Nat} {x : α} (h : l[j]? = some x) : (x, j) ∈ l.zipIdx := by
  apply mem_of_get (i := j)
  rw [List.getElem?_zipIdx, h]
  simp
theorem plain_binds {e : Edge} (h : plainEdge e = true) (m : Region.Mode) : Region.binds m e = true := by
  unfold plainEdge at h
  unfold Region.binds
  split at h <;> first | (cases h; done) | skip
  rename_i h1 h2
  split
  · rename_i hg; exact absurd hg (h1 _)
  · rename_i hg; exact absurd hg (h2 _)
  · rfl
theorem ordOk_rank {ops : Array Oper} {md : Region.Mode} (h : ordOk md ops = true) : ∃ rk : Nat → Nat, ∀ (j : Nat) (o : Oper), ops[j]? = some o → ∀ e ∈ o.after.toList, Region.binds md e = true → e.on < ops.size ∧ rk e.on < rk j := by
  refine ⟨fun j => (Region.linearise md ops 0).idxOf j, fun j o ho e he hb => ?_⟩
  unfold ordOk at h
  have h1 := List.all_eq_true.1 h j (List.mem_range.2 (Array.getElem?_eq_some_iff.1 ho).1)
  rw [ho] at h1
  have h2 := List.all_eq_true.1 h1 e he
  simpa [hb] using h2
theorem drawOk_of {ops : Array Oper} (h : drawOk ops = true) : DrawOk ops (firstLoud ops.toList) := by
  unfold drawOk at h
  simp only [Bool.and_eq_true] at h
  obtain ⟨⟨⟨h1, h4⟩, h2⟩, h3⟩ := h
  have hl : ∀ {j : Nat} {o : Oper}, ops[j]? = some o → ops.toList[j]? = some o := fun h => by simpa using h
  have hm := firstLoud_le ops.toList
  have ht : ∀ {j : Nat} {o : Oper}, j < firstLoud ops.toList → ops[j]? = some o → (ops.toList.take (firstLoud ops.toList))[j]? = some o := fun hj h => by
    rw [List.getElem?_take, if_pos hj]; exact hl h
  have hedge : ∀ (j : Nat) (o : Oper), ops[j]? = some o → ∀ e ∈ o.after.toList, plainEdge e = true → e.on < j := fun j o ho e he hp => by
    have := List.all_eq_true.1 (List.all_eq_true.1 h1 _ (zipIdx_mem (hl ho))) e he
    simpa [hp] using this
  refine ⟨hedge, fun md => ?_, fun j o ho hmj i hi => ?_, fun j i o o' hj hi ho ho' hne d hd => ?_, fun j i o o' hj hi ho ho' t htm hd => ?_, fun j o hj ho => firstLoud_quiet _ j o hj (hl ho), by simpa using hm⟩
  · rcases Bool.or_eq_true_iff.1 h4 with h4 | h4
    · refine ⟨id, fun j o ho e he _ => ?_⟩
      have hp := List.all_eq_true.1 (List.all_eq_true.1 h4 o (mem_of_get (hl ho))) e he
      have h5 := hedge j o ho e he hp
      have h6 := (Array.getElem?_eq_some_iff.1 ho).1
      exact ⟨by omega, h5⟩
    · simp only [Bool.and_eq_true] at h4
      cases md with
      | text => exact ordOk_rank h4.1.2
      | gc => exact ordOk_rank h4.2
      | any => exact ordOk_rank h4.1.1
  · have := List.all_eq_true.1 h2 _ (zipIdx_mem (hl ho))
    simp only [Bool.or_eq_true, decide_eq_true_eq] at this
    rcases this with h | h
    · omega
    · have := List.all_eq_true.1 h i (List.mem_range.2 hi)
      simpa using this
  · have := List.all_eq_true.1 (List.all_eq_true.1 h3 _ (zipIdx_mem (ht hj ho))) _ (zipIdx_mem (ht hi ho'))
    simp only [Bool.and_eq_true, Bool.or_eq_true] at this
    rcases this.1 with (h | h) | h
    · simp at h; exact absurd h hne
    · rw [hd] at h; cases h
    · rw [hd] at h
      intro h'
      rw [h'] at h
      simp at h
  · have := List.all_eq_true.1 (List.all_eq_true.1 h3 _ (zipIdx_mem (ht hj ho))) _ (zipIdx_mem (ht hi ho'))
    simp only [Bool.and_eq_true] at this
    have := List.all_eq_true.1 this.2 t htm
    simp only [Bool.or_eq_true] at this
    rcases this with (h | h) | h
    · rw [hd] at h; simp at h
    · exact .inl h
    · exact .inr h
section
variable {ops : Array Oper} {m : Nat} (d : DrawOk ops m)
theorem schedule_lin (mixed : Bool) (ops : Array Oper) (t : Nat) : ∃ md t', Region.schedule mixed ops t = Region.linearise md ops t' := by
  unfold Region.schedule
  split
  · exact ⟨_, _, rfl⟩
  · exact ⟨_, _, rfl⟩
theorem DrawOk.ready (d : DrawOk ops m) {md : Region.Mode} {listed : Array Bool} (hs : listed.size = ops.size) {i : Nat} (hi : i ∈ Region.ready md ops listed) : i < ops.size ∧ listed.getD i false = false ∧ ∃ o, ops[i]? = some o ∧ ∀ e ∈ o.after.toList, plainEdge e = true → listed.getD e.on false = true := by
  unfold Region.ready at hi
  simp only [List.mem_filter, List.mem_range, Bool.and_eq_true, Bool.not_eq_true'] at hi
  obtain ⟨h1, h2, h3⟩ := hi
  refine ⟨h1, ?_, ops[i], Array.getElem?_eq_getElem h1, fun e he hp => ?_⟩
  · rw [Array.getD_eq_getD_getElem?] at h2 ⊢
    rw [Array.getElem?_eq_getElem (by omega)] at h2 ⊢
    simpa using h2
  · rw [Array.getElem?_eq_getElem h1] at h3
    simp only [Option.map_some, Option.getD_some] at h3
    rw [← Array.all_toList] at h3
    have := List.all_eq_true.1 h3 e he
    rw [plain_binds hp] at this
    simpa using this
theorem DrawOk.progress (d : DrawOk ops m) (md : Region.Mode) {listed : Array Bool} (hs : listed.size = ops.size) {x : Nat} (hx : x < ops.size) (hu : listed.getD x false = false) : Region.ready md ops listed ≠ [] := by
  obtain ⟨rk, hrk⟩ := d.rank md
  have : ∀ n x, rk x = n → x < ops.size → listed.getD x false = false → Region.ready md ops listed ≠ [] := by
    intro n
    induction n using Nat.strongRecOn with
    | _ n ih =>
      intro x hn hx hu
      by_cases hall : ∀ e ∈ (ops[x]).after.toList, Region.binds md e = true → listed.getD e.on false = true
      · apply List.ne_nil_of_mem (a := x)
        unfold Region.ready
        simp only [List.mem_filter, List.mem_range, Bool.and_eq_true, Bool.not_eq_true']
        refine ⟨hx, ?_, ?_⟩
        · rw [Array.getD_eq_getD_getElem?] at hu ⊢
          rw [Array.getElem?_eq_getElem (by omega)] at hu ⊢
          simpa using hu
        · rw [Array.getElem?_eq_getElem hx]
          simp only [Option.map_some, Option.getD_some]
          rw [← Array.all_toList]
          refine List.all_eq_true.2 fun e he => ?_
          rcases hb : Region.binds md e with _ | _
          · rfl
          · rw [hall e he hb]; rfl
      · simp only [Classical.not_forall] at hall
        obtain ⟨e, he, hb, hl⟩ := hall
        obtain ⟨h1, h2⟩ := hrk x ops[x] (Array.getElem?_eq_getElem hx) e he hb
        exact ih (rk e.on) (by omega) e.on rfl h1 (by simpa using hl)
  exact this _ x rfl hx hu
theorem DrawOk.before_lt (d : DrawOk ops m) : ∀ (j : Nat), j < ops.size → ∀ x, ((beforeL ops.toList).getD j 0).testBit x = true → x < j := by
  intro j
  induction j using Nat.strongRecOn with
  | _ j ih =>
    intro hj x hx
    have ho : ops.toList[j]? = some ops[j] := by simp [hj]
    obtain ⟨e, he, hp, h⟩ := beforeL_mem ho hx
    have hlt := d.edge j ops[j] (Array.getElem?_eq_getElem hj) e he hp
    rcases h with rfl | h
    · exact hlt
    · exact Nat.lt_trans (ih e.on hlt (by omega) x h) hlt
/-- What is listed, with all that it waits for. -/
def Closed (ops : Array Oper) (listed : Array Bool) : Prop := ∀ x, x < ops.size → listed.getD x false = true → ∀ i, ((beforeL ops.toList).getD x 0).testBit i = true → listed.getD i false = true
theorem before_listed {listed' : Array Bool} (hc : Closed ops listed') {i : Nat} {o : Oper} (ho : ops[i]? = some o) (he : ∀ e ∈ o.after.toList, plainEdge e = true → listed'.getD e.on false = true) (d : DrawOk ops m) : ∀ x, ((beforeL ops.toList).getD i 0).testBit x = true → listed'.getD x false = true := by
  intro x hx
  have hi := (Array.getElem?_eq_some_iff.1 ho).1
  obtain ⟨e, hem, hp, h⟩ := beforeL_mem (by simpa using ho) hx
  rcases h with rfl | h
  · exact he e hem hp
  · exact hc e.on (by have := d.edge i o ho e hem hp; omega) (he e hem hp) x h
end
end Go.PI

end
section
/- The pure interpreter and its simulation, part 24. -/
set_option linter.unusedSimpArgs false
set_option linter.unusedVariables false
namespace Go.PI
section
variable {C : Cfg} {rec : Rec} {ops : Array Oper} {m : Nat} {md : Region.Mode}
theorem getD_set {l : Array Bool} {i x : Nat} (hi : i < l.size) : (l.setIfInBounds i true).getD x false = if x = i then true else l.getD x false := by
  rw [Array.getD_eq_getD_getElem?, Array.getD_eq_getD_getElem?, Array.getElem?_setIfInBounds]
  by_cases h : x = i
  · subst h
    rw [if_pos rfl, if_pos hi]
    simp
  · rw [if_neg (fun e => h e.symm), if_neg h]
theorem go_some {fuel t : Nat} {listed : Array Bool} (h : Region.ready md ops listed ≠ []) :
    ∃ i ∈ Region.ready md ops listed, Region.linearise.go md ops (fuel + 1) t listed [] = i :: Region.linearise.go md ops fuel (t / (Region.ready md ops listed).length) (listed.setIfInBounds i true) [] := by
  simp only [Region.linearise.go]
  change ∃ i ∈ Region.ready md ops listed, (match (Region.ready md ops listed)[t % (Region.ready md ops listed).length]? with
      | some i => Region.linearise.go md ops fuel (t / (Region.ready md ops listed).length) (listed.setIfInBounds i true) [i]
      | none => [].reverse) = _
  cases hi : (Region.ready md ops listed)[t % (Region.ready md ops listed).length]? with
  | none =>
    have h0 : 0 < (Region.ready md ops listed).length := by
      rcases Nat.eq_zero_or_pos (Region.ready md ops listed).length with h1 | h1
      · exact absurd (List.eq_nil_of_length_eq_zero h1) h
      · exact h1
    have := List.getElem?_eq_none_iff.1 hi
    have := Nat.mod_lt t h0
    omega
  | some i =>
    refine ⟨i, List.mem_of_getElem? hi, ?_⟩
    simp only []
    rw [linearise_go_acc, List.reverse_singleton, List.singleton_append]
theorem closed_set (d : DrawOk ops m) {listed : Array Bool} (hs : listed.size = ops.size) (hc : Closed ops listed) {i : Nat} (hi : i ∈ Region.ready md ops listed) : Closed ops (listed.setIfInBounds i true) := by
  obtain ⟨h1, h2, o, ho, he⟩ := d.ready hs hi
  intro x hx hxl y hy
  rw [getD_set (by omega)] at hxl ⊢
  split
  · rfl
  · split at hxl
    · rename_i hxi
      subst hxi
      exact before_listed hc ho he d y hy
    · exact hc x hx hxl y hy
theorem go_tail (d : DrawOk ops m) : ∀ (fuel k t : Nat) (listed : Array Bool), listed.size = ops.size → Closed ops listed → (∀ i, i < ops.size → listed.getD i false = decide (i < k)) → m ≤ k → k ≤ ops.size → fuel = ops.size - k →
    Region.linearise.go md ops fuel t listed [] = List.range' k (ops.size - k)
  | 0, k, t, listed, hs, hc, hl, hm, hk, hf => by
    rw [← hf]
    rfl
  | fuel + 1, k, t, listed, hs, hc, hl, hm, hk, hf => by
    have hkn : k < ops.size := by omega
    obtain ⟨i, hi, hgo⟩ := go_some (fuel := fuel) (t := t) (d.progress md hs hkn (by rw [hl k hkn]; simp))
    obtain ⟨h1, h2, o, ho, he⟩ := d.ready hs hi
    have hik : i = k := by
      rw [hl i h1] at h2
      simp at h2
      rcases Nat.lt_or_ge k i with h | h
      · have := before_listed hc ho he d k (d.tail i o ho (by omega) k h)
        rw [hl k hkn] at this
        simp at this
      · omega
    subst hik
    rw [hgo, go_tail d fuel (i + 1) _ _ (by simpa using hs) (closed_set d hs hc hi) (fun j hj => by
      rw [getD_set (by omega), hl j hj]
      split
      · subst j; simp
      · simp; omega) (by omega) (by omega) (by omega)]
    rw [show ops.size - i = (ops.size - (i + 1)) + 1 from by omega, List.range'_succ]
theorem cnt_set {p q : Nat → Bool} {i : Nat} (hp : p i = true) (hq : q i = false) (h : ∀ j, j ≠ i → q j = p j) : ∀ (m : Nat), (i < m → (List.range m).countP q + 1 = (List.range m).countP p) ∧ (m ≤ i → (List.range m).countP q = (List.range m).countP p)
  | 0 => ⟨fun h => by omega, fun _ => rfl⟩
  | m + 1 => by
    obtain ⟨h1, h2⟩ := cnt_set hp hq h m
    simp only [List.range_succ, List.countP_append, List.countP_singleton]
    refine ⟨fun hi => ?_, fun hi => ?_⟩
    · by_cases hm : m = i
      · subst hm
        rw [hp, hq, h2 (Nat.le_refl _)]
        simp
      · rw [h m hm]
        have := h1 (by omega)
        omega
    · rw [h m (by omega), h2 (by omega)]

/-- The first operations, in the text's order. -/
structure QData (C : Cfg) (rec : Rec) (ops : Array Oper) (m : Nat) (g : List PV) (H : List HO) (gs : Nat → List PV) (Hs : Nat → List HO) (vs : Nat → PV) (nw : Nat → List HO) : Prop where
  g0 : gs 0 = g
  h0 : Hs 0 = H
  step : ∀ (k : Nat) (o : Oper), k < m → ops[k]? = some o → gs (k + 1) = setD (gs k) o.dst (vs k) ∧ Hs (k + 1) = Hs k ++ nw k ∧
    ((wantedP ops o (gs k) = some true ∧ dop C rec o (gs k) (Hs k) = some (vs k, nw k)) ∨ (wantedP ops o (gs k) = some false ∧ vs k = undefP ∧ nw k = []))
theorem qdata {g' : List PV} {H' : List HO} : ∀ (m i : Nat) (l : List Oper) (g : List PV) (H : List HO), (∀ (j : Nat) (o : Oper), j < m → l[j]? = some o → quiet o = true) → m ≤ l.length → opsRun C rec true ops l g H = some (g', H') →
    ∃ (gs : Nat → List PV) (Hs : Nat → List HO) (vs : Nat → PV) (nw : Nat → List HO), gs 0 = g ∧ Hs 0 = H ∧ (∀ (k : Nat) (o : Oper), k < m → l[k]? = some o → gs (k + 1) = setD (gs k) o.dst (vs k) ∧ Hs (k + 1) = Hs k ++ nw k ∧
      ((wantedP ops o (gs k) = some true ∧ dop C rec o (gs k) (Hs k) = some (vs k, nw k)) ∨ (wantedP ops o (gs k) = some false ∧ vs k = undefP ∧ nw k = []))) ∧
      opsRun C rec true ops (l.drop m) (gs m) (Hs m) = some (g', H')
  | 0, i, l, g, H, _, _, h => ⟨fun _ => g, fun _ => H, fun _ => undefP, fun _ => [], rfl, rfl, fun k o hk => by omega, h⟩
  | m + 1, i, [], g, H, _, hl, _ => by simp at hl
  | m + 1, i, o :: l, g, H, hq, hl, h => by
    unfold opsRun at h
    split at h
    · rename_i g1 H1 h1
      obtain ⟨gs, Hs, vs, nw, e1, e2, e3, e4⟩ := qdata m (i + 1) l g1 H1 (fun j o' hj ho => hq (j + 1) o' (by omega) (by simpa using ho)) (by simpa using hl) h
      have hs : ∃ v new, g1 = setD g o.dst v ∧ H1 = H ++ new ∧ ((wantedP ops o g = some true ∧ dop C rec o g H = some (v, new)) ∨ (wantedP ops o g = some false ∧ v = undefP ∧ new = [])) := by
        unfold opStep at h1
        have hqo : quiet o = true := hq 0 o (by omega) rfl
        split at h1
        · rename_i hw
          rw [hqo] at h1
          simp only [Bool.true_and, if_true] at h1
          split at h1
          · rename_i v new hd
            cases h1
            exact ⟨v, new, rfl, rfl, .inl ⟨hw, hd⟩⟩
          · cases h1
        · rename_i hw
          cases h1
          exact ⟨undefP, [], rfl, by simp, .inr ⟨hw, rfl, rfl⟩⟩
        · cases h1
      obtain ⟨v, new, f1, f2, f3⟩ := hs
      refine ⟨fun k => match k with | 0 => g | k + 1 => gs k, fun k => match k with | 0 => H | k + 1 => Hs k, fun k => match k with | 0 => v | k + 1 => vs k, fun k => match k with | 0 => new | k + 1 => nw k, rfl, rfl, fun k o' hk ho => ?_, by simpa using e4⟩
      cases k with
      | zero =>
        simp at ho
        subst ho
        simp only [e1, e2]
        exact ⟨f1, f2, f3⟩
      | succ k => exact e3 k o' (by omega) (by simpa using ho)
    · cases h
end
end Go.PI

end
section
/- The pure interpreter and its simulation, part 25. -/
set_option linter.unusedSimpArgs false
set_option linter.unusedVariables false
namespace Go.PI
section
variable {C : Cfg} {rec : Rec} {ops : Array Oper} {m : Nat} {w w' : World} {B : Nat → Nat → Prop} {Bs : Nat} {μ μ' : Mu} {H H' Hb : List HO} {a : Act} {g : List PV}
theorem one_nil {p : Option PV} {v : PV} {new : List HO} (h : (p.map fun v => (v, ([] : List HO))) = some (v, new)) : ∀ o ∈ new, writable o = true := by
  obtain ⟨q, rfl, hq⟩ := Option.map_eq_some_iff.1 h
  cases hq
  intro o ho
  cases ho
theorem qop_writable {o : Oper} {v : PV} {new : List HO} (h : qop C o g H = some (v, new)) : ∀ o ∈ new, writable o = true := by
  unfold qop at h
  simp only at h
  repeat' split at h
  all_goals first
    | (cases h; done)
    | exact one_nil h
    | (cases h; intro o ho; simp at ho; subst ho; rfl)
    | (obtain ⟨q, _, hq⟩ := Option.map_eq_some_iff.1 h; cases hq; intro o ho; simp at ho; subst ho; rfl)
theorem recvL_writable : ∀ {qs : List PV} {m : Nat} {vs : List PV} {new : List HO}, recvL C m qs = some (vs, new) → ∀ o ∈ new, writable o = true
  | [], m, vs, new, h => by cases h; intro o ho; cases ho
  | q :: qs, m, vs, new, h => by
    unfold recvL at h
    split at h
    · rename_i v new1 h1
      split at h
      · rename_i vs' news h2
        cases h
        intro o ho
        rcases List.mem_append.1 ho with ho | ho
        · unfold recv1 at h1
          split at h1
          · split at h1
            · split at h1
              · cases h1; simp at ho; subst ho; rfl
              · cases h1
            · cases h1
          · cases h1; cases ho
        · exact recvL_writable h2 o ho
      · cases h
    · cases h
theorem recv_writable {q : PV} {m : Nat} {v : PV} {new : List HO} (h : recv C m q = some (v, new)) : ∀ o ∈ new, writable o = true := by
  unfold recv at h
  split at h
  · obtain ⟨⟨vs, n⟩, h1, h2⟩ := Option.map_eq_some_iff.1 h
    cases h2
    exact recvL_writable h1
  · have : recvL C m [q] = some ([v], new) := by simp [recvL, h]
    exact recvL_writable this
theorem dop_writable {o : Oper} {v : PV} {new : List HO} (h : dop C rec o g H = some (v, new)) : ∀ o ∈ new, writable o = true := by
  unfold dop at h
  split at h
  · split at h
    · unfold qcallV at h
      split at h
      · split at h
        · cases h
        · split at h
          · split at h
            · split at h
              · exact recv_writable h
              · cases h
            · cases h
          · cases h
      · cases h
    · exact qop_writable h
    · cases h
  · exact qop_writable h

variable {gs : Nat → List PV} {Hs : Nat → List HO} {vs : Nat → PV} {nw : Nat → List HO}
def dstOf (ops : Array Oper) (i : Nat) : Option Tmp := (ops[i]?).bind (·.dst)
/-- What the temporaries are when L is done. -/
def Cur (ops : Array Oper) (m : Nat) (g : List PV) (vs : Nat → PV) (L : Nat → Prop) (gD : List PV) : Prop :=
  gD.length = g.length ∧ ∀ t, t < g.length → (∀ i, i < m → L i → dstOf ops i = some t → gD.getD t undefP = vs i) ∧ ((∀ i, i < m → L i → dstOf ops i ≠ some t) → gD.getD t undefP = g.getD t undefP)
theorem setD_len (g : List PV) (d : Option Tmp) (v : PV) : (setD g d v).length = g.length := by cases d <;> simp [setD]
theorem setD_getD (g : List PV) (d : Option Tmp) (v : PV) (t : Nat) (ht : t < g.length) : (setD g d v).getD t undefP = if d = some t then v else g.getD t undefP := by
  cases d with
  | none => simp [setD]
  | some i =>
    simp only [setD, List.getD_eq_getElem?_getD, List.getElem?_set]
    by_cases h : i = t
    · subst h
      simp [ht]
    · simp [h]
theorem Cur.eq {L1 L2 : Nat → Prop} {g1 g2 : List PV} (h1 : Cur ops m g vs L1 g1) (h2 : Cur ops m g vs L2 g2) (t : Nat) (h : ∀ i, i < m → dstOf ops i = some t → (L1 i ↔ L2 i)) : g1.getD t undefP = g2.getD t undefP := by
  rcases Nat.lt_or_ge t g.length with ht | ht
  · by_cases hex : ∃ i, i < m ∧ L1 i ∧ dstOf ops i = some t
    · obtain ⟨i, hi, hl, hd⟩ := hex
      rw [(h1.2 t ht).1 i hi hl hd, (h2.2 t ht).1 i hi ((h i hi hd).1 hl) hd]
    · rw [(h1.2 t ht).2 (fun i hi hl hd => hex ⟨i, hi, hl, hd⟩), (h2.2 t ht).2 (fun i hi hl hd => hex ⟨i, hi, (h i hi hd).2 hl, hd⟩)]
  · rw [List.getD_eq_getElem?_getD, List.getD_eq_getElem?_getD, List.getElem?_eq_none (by have := h1.1; omega), List.getElem?_eq_none (by have := h2.1; omega)]
theorem Cur.set (d : DrawOk ops m) {L L' : Nat → Prop} {gD : List PV} (h : Cur ops m g vs L gD) {i : Nat} {o : Oper} (hi : i < m) (ho : ops[i]? = some o) (hL : ∀ j, L' j ↔ (L j ∨ j = i)) : Cur ops m g vs L' (setD gD o.dst (vs i)) := by
  have hdi : dstOf ops i = o.dst := by simp [dstOf, ho]
  have hun : ∀ j t, j < m → dstOf ops j = some t → o.dst = some t → j = i := by
    intro j t hj hd ht
    by_cases hji : j = i
    · exact hji
    · exfalso
      obtain ⟨o', ho'⟩ : ∃ o', ops[j]? = some o' := ⟨ops[j]'(by have := d.le; omega), Array.getElem?_eq_getElem _⟩
      have := d.dsts i j o o' hi hj ho ho' hji t ht
      simp [dstOf, ho'] at hd
      exact this hd
  refine ⟨by rw [setD_len]; exact h.1, fun t ht => ⟨fun j hj hl hd => ?_, fun hno => ?_⟩⟩
  · rw [setD_getD _ _ _ _ (by rw [h.1]; exact ht)]
    split
    · rename_i hdt
      rw [hun j t hj hd hdt]
    · rename_i hdt
      rcases (hL j).1 hl with hl | rfl
      · exact (h.2 t ht).1 j hj hl hd
      · exact absurd (hdi.symm.trans hd) hdt
  · rw [setD_getD _ _ _ _ (by rw [h.1]; exact ht)]
    rw [if_neg (fun hdt => hno i hi ((hL i).2 (.inr rfl)) (hdi.trans hdt))]
    exact (h.2 t ht).2 (fun j hj hl => hno j hj ((hL j).2 (.inl hl)))
theorem QData.cur (d : DrawOk ops m) (q : QData C rec ops m g H gs Hs vs nw) : ∀ k, k ≤ m → Cur ops m g vs (fun i => i < k) (gs k)
  | 0, _ => by rw [q.g0]; exact ⟨rfl, fun t ht => ⟨fun i _ h => absurd h (Nat.not_lt_zero i), fun _ => rfl⟩⟩
  | k + 1, hk => by
    obtain ⟨o, ho⟩ : ∃ o, ops[k]? = some o := ⟨ops[k]'(by have := d.le; omega), Array.getElem?_eq_getElem _⟩
    rw [(q.step k o (by omega) ho).1]
    exact Cur.set d (QData.cur d q k (by omega)) (by omega) ho (fun j => by omega)
theorem QData.pre (d : DrawOk ops m) (q : QData C rec ops m g H gs Hs vs nw) (k : Nat) : ∀ k', k ≤ k' → k' ≤ m → ∃ r, Hs k' = Hs k ++ r := by
  intro k' h
  induction h with
  | refl => intro _; exact ⟨[], by simp⟩
  | @step j hj ih =>
    intro hm
    obtain ⟨r, hr⟩ := ih (by omega)
    obtain ⟨o, ho⟩ : ∃ o, ops[j]? = some o := ⟨ops[j]'(by have := d.le; omega), Array.getElem?_eq_getElem _⟩
    exact ⟨r ++ nw j, by rw [(q.step j o (by omega) ho).2.1, hr, List.append_assoc]⟩
theorem QData.wr (d : DrawOk ops m) (q : QData C rec ops m g H gs Hs vs nw) : ∀ k, k ≤ m → ∀ r o, H.length ≤ r → (Hs k)[r]? = some o → writable o = true
  | 0, _, r, o, hr, ho => by
    rw [q.h0] at ho
    have := (List.getElem?_eq_some_iff.1 ho).1
    omega
  | k + 1, hk, r, o, hr, ho => by
    obtain ⟨op, hop⟩ : ∃ o, ops[k]? = some o := ⟨ops[k]'(by have := d.le; omega), Array.getElem?_eq_getElem _⟩
    obtain ⟨_, h2, h3⟩ := q.step k op (by omega) hop
    rw [h2] at ho
    rcases Nat.lt_or_ge r (Hs k).length with h | h
    · rw [List.getElem?_append_left h] at ho
      exact QData.wr d q k (by omega) r o hr ho
    · rw [List.getElem?_append_right h] at ho
      rcases h3 with ⟨_, h3⟩ | ⟨_, _, h3⟩
      · exact dop_writable h3 o (mem_of_get ho)
      · rw [h3] at ho; simp at ho
theorem QData.len (d : DrawOk ops m) (q : QData C rec ops m g H gs Hs vs nw) {k k' : Nat} (h : k ≤ k') (hm : k' ≤ m) : (Hs k).length ≤ (Hs k').length := by
  obtain ⟨r, hr⟩ := q.pre d k k' h hm
  rw [hr]
  simp
theorem list_eq_getD {l1 l2 : List PV} (hl : l1.length = l2.length) (h : ∀ t, l1.getD t undefP = l2.getD t undefP) : l1 = l2 := by
  apply List.ext_getElem hl
  intro i h1 h2
  have := h i
  rw [List.getD_eq_getElem?_getD, List.getD_eq_getElem?_getD, List.getElem?_eq_getElem h1, List.getElem?_eq_getElem h2] at this
  exact this
theorem wantedP_congr {g1 g2 : List PV} {o : Oper} (h : ∀ t ∈ guardTmp ops.toList o, g1.getD t undefP = g2.getD t undefP) : wantedP ops o g1 = wantedP ops o g2 := by
  unfold wantedP
  unfold guardTmp at h
  split
  · rfl
  · rename_i j want hg
    rw [hg] at h
    simp only at h
    split
    · rename_i d hd
      have : d ∈ ((ops.toList[j]?).bind (·.dst)).toList := by
        rw [Array.getElem?_toList, hd]
        simp
      rw [h d this]
    · rfl
theorem opnd_congr {g1 g2 : List PV} {o : Oper} (h : ∀ t ∈ opTmps o, g1.getD t undefP = g2.getD t undefP) {x : Operand} (hx : x ∈ o.op.operands.toList) : opnd C g1 x = opnd C g2 x := by
  cases x with
  | tmp t =>
    simp only [opnd]
    apply h
    unfold opTmps
    rw [List.mem_filterMap]
    exact ⟨_, hx, rfl⟩
  | _ => rfl

theorem quiet_go {md : Region.Mode} (hok : Ok C) (hr : RecSim C rec) (d : DrawOk ops m) (q : QData C rec ops m g H gs Hs vs nw) (b : Frame) (todo : List Item) (cs : List Frame) : ∀ (fuel t : Nat) (listed : Array Bool) (gD : List PV) (μ : Mu) (w : World) (a : Act), listed.size = ops.size → Closed ops listed →
    (∀ i, m ≤ i → listed.getD i false = false) → fuel = (List.range m).countP (fun j => !listed.getD j false) + (ops.size - m) → Cur ops m g vs (fun i => listed.getD i false = true) gD → RelL w (Bn B Bs μ (Hs m) w) μ gD a.tmps.toList → St C B Bs μ (Hs m) w →
    (∀ r l, μ r = some l → r < H.length ∨ ∃ i, i < m ∧ listed.getD i false = true ∧ (Hs i).length ≤ r ∧ r < (Hs (i + 1)).length) →
    ∃ w' μ' a', Steps C.P (lone (b.atR a (.inRegion ops (Region.linearise.go md ops fuel t listed []) :: todo)) cs w) (lone (b.atR a' (.inRegion ops (List.range' m (ops.size - m)) :: todo)) cs w') ∧ St C B Bs μ' (Hs m) w' ∧ Ext μ (Hs m) w μ' (Hs m) w' ∧
      RelL w' (Bn B Bs μ' (Hs m) w') μ' (gs m) a'.tmps.toList ∧ a'.defers = a.defers := by
  intro fuel
  induction fuel with
  | zero =>
    intro t listed gD μ w a hs hc htl hf hcur hg st hdom
    have h0 : (List.range m).countP (fun j => !listed.getD j false) = 0 := by omega
    have hmn : ops.size - m = 0 := by omega
    refine ⟨w, μ, a, ?_, st, .refl _ _ _, ?_, rfl⟩
    · rw [hmn]; exact Steps.refl _ _
    · have hall : ∀ i, i < m → listed.getD i false = true := fun i hi => by
        have := List.countP_eq_zero.1 h0 i (List.mem_range.2 hi)
        simpa using this
      have : gD = gs m := list_eq_getD (by rw [hcur.1, (q.cur d m (Nat.le_refl _)).1]) (fun t => hcur.eq (q.cur d m (Nat.le_refl _)) t (fun i hi _ => ⟨fun _ => hi, fun _ => hall i hi⟩))
      rw [← this]
      exact hg
  | succ fuel ih =>
    intro t listed gD μ w a hs hc htl hf hcur hg st hdom
    by_cases h0 : (List.range m).countP (fun j => !listed.getD j false) = 0
    · have hall : ∀ i, i < m → listed.getD i false = true := fun i hi => by
        have := List.countP_eq_zero.1 h0 i (List.mem_range.2 hi)
        simpa using this
      have : gD = gs m := list_eq_getD (by rw [hcur.1, (q.cur d m (Nat.le_refl _)).1]) (fun t => hcur.eq (q.cur d m (Nat.le_refl _)) t (fun i hi _ => ⟨fun _ => hi, fun _ => hall i hi⟩))
      refine ⟨w, μ, a, ?_, st, .refl _ _ _, by rw [← this]; exact hg, rfl⟩
      rw [go_tail d (fuel + 1) m t listed hs hc (fun i hi => by
        rcases Nat.lt_or_ge i m with h | h
        · rw [hall i h]; simp [h]
        · rw [htl i h]; simp; omega) (Nat.le_refl _) d.le (by omega)]
      exact Steps.refl _ _
    · -- the least that is not listed
      obtain ⟨x, hxm, hxl⟩ : ∃ x, x < m ∧ listed.getD x false = false := by
        by_cases hex : ∃ x, x < m ∧ listed.getD x false = false
        · exact hex
        · exfalso
          apply h0
          rw [List.countP_eq_zero]
          intro j hj
          have hjm := List.mem_range.1 hj
          rcases hlj : listed.getD j false with _ | _
          · exact absurd ⟨j, hjm, hlj⟩ hex
          · simp
      have hne : Region.ready md ops listed ≠ [] := d.progress md hs (by have := d.le; omega) hxl
      obtain ⟨i, hi, hgo⟩ := go_some (fuel := fuel) (t := t) hne
      rw [hgo]
      obtain ⟨h1, h2, o, ho, he⟩ := d.ready hs hi
      have him : i < m := by
        rcases Nat.lt_or_ge i m with h | h
        · exact h
        · have := before_listed hc ho he d x (d.tail i o ho h x (by omega))
          rw [hxl] at this
          cases this
      have hbef := before_listed hc ho he d
      obtain ⟨q1, q2, q3⟩ := q.step i o him ho
      have hsame : ∀ t ∈ opTmps o ++ guardTmp ops.toList o, (gs i).getD t undefP = gD.getD t undefP := by
        intro t ht
        refine (q.cur d i (by omega)).eq hcur t (fun j hj hd => ?_)
        obtain ⟨o', ho'⟩ : ∃ o', ops[j]? = some o' := ⟨ops[j]'(by have := d.le; omega), Array.getElem?_eq_getElem _⟩
        rcases d.reads i j o o' him hj ho ho' t ht (by simpa [dstOf, ho'] using hd) with hmem | hmem
        · exact ⟨fun _ => hbef j hmem, fun _ => d.before_lt i h1 j hmem⟩
        · have hlt := d.before_lt j (by have := d.le; omega) i hmem
          refine ⟨fun h => by omega, fun h => ?_⟩
          have := hc j (by have := d.le; omega) h i hmem
          rw [h2] at this
          cases this
      have hx : ∀ y ∈ o.op.operands.toList, Rel w (Bn B Bs μ (Hs m) w) μ (opnd C (gs i) y) (a.eval y) := fun y hy => by
        rw [opnd_congr (fun t ht => hsame t (by simp [ht])) hy]
        exact opnd_rel st hg y
      have hwc : wantedP ops o (gs i) = wantedP ops o gD := wantedP_congr (fun t ht => hsame t (by simp [ht]))
      have hpre : HLe (Hs i ++ nw i) (Hs m) := by
        obtain ⟨r, hr'⟩ := q.pre d (i + 1) m (by omega) (Nat.le_refl _)
        rw [← q2, hr']
        exact HLe.append _ _
      have hlen1 : (Hs (i + 1)).length = (Hs i).length + (nw i).length := by rw [q2]; simp
      have hlenH : H.length ≤ (Hs i).length := by
        have := q.len d (Nat.zero_le i) (by omega)
        rw [q.h0] at this
        exact this
      have hm : ∀ r, (Hs i).length ≤ r → r < (Hs i).length + (nw i).length → μ r = none := by
        intro r hr1 hr2
        rcases hmu : μ r with _ | l
        · rfl
        · exfalso
          rcases hdom r l hmu with h | ⟨j, hj, hjl, hj1, hj2⟩
          · omega
          · rcases Nat.lt_trichotomy i j with h | h | h
            · have := q.len d (k := i + 1) (k' := j) (by omega) (by omega)
              omega
            · subst h
              rw [h2] at hjl
              cases hjl
            · have := q.len d (k := j + 1) (k' := i) (by omega) (by omega)
              omega
      have step1 : ∃ u w1 μ1, Steps C.P (lone (b.atR a (.inRegion ops (i :: Region.linearise.go md ops fuel (t / (Region.ready md ops listed).length) (listed.setIfInBounds i true) []) :: todo)) cs w)
          (lone (b.atR (a.put o.dst u) (.inRegion ops (Region.linearise.go md ops fuel (t / (Region.ready md ops listed).length) (listed.setIfInBounds i true) []) :: todo)) cs w1) ∧ St C B Bs μ1 (Hs m) w1 ∧ Ext μ (Hs m) w μ1 (Hs m) w1 ∧ Rel w1 (Bn B Bs μ1 (Hs m) w1) μ1 (vs i) u ∧
          ∀ r, (r < (Hs i).length ∨ (Hs i).length + (nw i).length ≤ r) → μ1 r = μ r := by
        rcases q3 with ⟨q3, q4⟩ | ⟨q3, q4, q5⟩
        · exact dop_sim hok hr st q4 hpre hm (fun r l o hr' _ ho' => q.wr d m (Nat.le_refl _) r o (by omega) ho') hx b ops i _ todo cs ho (wanted_rel hg (by rw [← hwc]; exact q3))
        · have hs := stepR_op_skip (P := C.P) (b := b) (a := a) (k := todo) (cs := cs) (w := w) (ops := ops) (i := i) (rest := Region.linearise.go md ops fuel (t / (Region.ready md ops listed).length) (listed.setIfInBounds i true) []) (by simp [ho, wanted_rel hg (by rw [← hwc]; exact q3)])
          rw [ho] at hs
          exact ⟨_, w, μ, .one hs, st, .refl _ _ _, by rw [q4]; exact rel_undef, fun _ _ => rfl⟩
      obtain ⟨u, w1, μ1, k1, k2, k3, k4, k5⟩ := step1
      have hcnt := (cnt_set (p := fun j => !listed.getD j false) (q := fun j => !(listed.setIfInBounds i true).getD j false) (i := i) (by simp [h2]) (by simp only [getD_set (show i < listed.size by omega)]; simp) (fun j hj => by simp only [getD_set (show i < listed.size by omega), if_neg hj]) m).1 him
      obtain ⟨w2, μ2, a2, n1, n2, n3, n4, n5⟩ := ih (t / (Region.ready md ops listed).length) (listed.setIfInBounds i true) (setD gD o.dst (vs i)) μ1 w1 (a.put o.dst u) (by simpa using hs) (closed_set d hs hc hi) (fun j hj => by
          rw [getD_set (by omega), if_neg (by omega)]; exact htl j hj) (by omega) (hcur.set d him ho (fun j => by
          rw [getD_set (by omega)]
          by_cases hji : j = i
          · simp [hji]
          · simp [hji])) (put_rel (st.relL k3 hg) _ k4) k2 (fun r l hmu => by
          by_cases hin : (Hs i).length ≤ r ∧ r < (Hs (i + 1)).length
          · right
            exact ⟨i, him, by rw [getD_set (by omega), if_pos rfl], hin.1, hin.2⟩
          · rw [k5 r (by omega)] at hmu
            rcases hdom r l hmu with h | ⟨j, hj, hjl, hj1, hj2⟩
            · exact .inl h
            · right
              refine ⟨j, hj, ?_, hj1, hj2⟩
              rw [getD_set (by omega)]
              split
              · rfl
              · exact hjl)
      exact ⟨w2, μ2, a2, Steps.trans k1 n1, n2, k3.trans n3, n4, by rw [n5]; cases o.dst <;> rfl⟩

/-- A region. -/
theorem region_sim (hok : Ok C) (hr : RecSim C rec) {id : Nat} {draw : Bool} {g' : List PV} (hco : codeOk (.region id ops draw) = true) (st : St C B Bs μ H w) (hg : RelL w (Bn B Bs μ H w) μ g a.tmps.toList) (h : opsRun C rec draw ops ops.toList g H = some (g', H')) (b : Frame) (k : List Item) (cs : List Frame) :
    ∃ w' μ' a', Steps C.P (lone (b.atR a (.code (.region id ops draw) :: k)) cs w) (lone (b.atR a' k) cs w') ∧ St C B Bs μ' H' w' ∧ Ext μ H w μ' H' w' ∧ RelL w' (Bn B Bs μ' H' w') μ' g' a'.tmps.toList ∧ a'.defers = a.defers := by
  cases draw with
  | false =>
    obtain ⟨w', μ', a', k1, k2, k3, k4, k5⟩ := opsRun_sim hok hr b k cs ops.toList 0 (fun j o hj => by simpa using hj) st hg h
    refine ⟨w', μ', a', .head stepR_region ?_, k2, k3, k4, k5⟩
    rw [← List.range_eq_range', Array.length_toList] at k1
    exact Steps.trans k1 (.one stepR_region_end)
  | true =>
    have d := drawOk_of (ops := ops) (by simpa [codeOk] using hco)
    obtain ⟨gs, Hs, vs, nw, e1, e2, e3, e4⟩ := qdata (firstLoud ops.toList) 0 ops.toList g H (fun j o hj ho => d.quiet j o hj (by simpa using ho)) (by simpa using d.le) h
    have q : QData C rec ops (firstLoud ops.toList) g H gs Hs vs nw := ⟨e1, e2, fun k o hk ho => e3 k o hk (by simpa using ho)⟩
    obtain ⟨st1, he1⟩ := st.world (w' := w.drew) ⟨rfl, rfl, rfl, Nat.le_refl _, fun _ _ _ => rfl, fun _ L h => ⟨L, h⟩⟩
    obtain ⟨r, hr'⟩ := q.pre d 0 (firstLoud ops.toList) (Nat.zero_le _) (Nat.le_refl _)
    rw [e2] at hr'
    have st2 := st1.grow r
    have he2 := st1.ext_grow r
    rw [← hr'] at st2 he2
    have hrep : ∀ i, (Array.replicate ops.size false).getD i false = false := fun i => by
      rw [Array.getD_eq_getD_getElem?, Array.getElem?_replicate]
      split <;> rfl
    have hcnt : (List.range (firstLoud ops.toList)).countP (fun j => !(Array.replicate ops.size false).getD j false) = firstLoud ops.toList := by
      rw [List.countP_eq_length.2 (fun j _ => by rw [hrep]; rfl)]
      simp
    obtain ⟨md, t', hsch⟩ := schedule_lin (C.P.follows .mixedOrders) ops (w.tape w.drawn (.order b.fn id))
    obtain ⟨w3, μ3, a3, k1, k2, k3, k4, k5⟩ := quiet_go (md := md) hok hr d q b k cs ops.size t' (Array.replicate ops.size false) g μ w.drew a (by simp) (fun x _ hx => by rw [hrep] at hx; cases hx) (fun i _ => hrep i) (by rw [hcnt]; have := d.le; omega)
      ⟨rfl, fun t ht => ⟨(fun i _ hl => by simp [hrep] at hl), fun _ => rfl⟩⟩ (st1.relL he2 (st.relL he1 hg)) st2 (fun r l hmu => .inl (st.lt hmu))
    obtain ⟨w4, μ4, a4, n1, n2, n3, n4, n5⟩ := opsRun_sim hok hr (draw := true) (ops := ops) b k cs (ops.toList.drop (firstLoud ops.toList)) (firstLoud ops.toList) (fun j o hj => by
      rw [List.getElem?_drop, Array.getElem?_toList] at hj; exact hj) k2 k4 e4
    refine ⟨w4, μ4, a4, .head stepR_region_draw ?_, n2, ((he1.trans he2).trans k3).trans n3, n4, n5.trans k5⟩
    rw [hsch]
    rw [List.length_drop, Array.length_toList] at n1
    exact Steps.trans k1 (Steps.trans n1 (.one stepR_region_end))
end
end Go.PI

end
section
/- The pure interpreter and its simulation, part 26. -/
set_option linter.unusedSimpArgs false
set_option linter.unusedVariables false
namespace Go.PI
section
variable {P : Program} {b : Frame} {a : Act} {k : List Item} {cs : List Frame} {w : World}
theorem stepR_scope {c : Code} : step P (lone (b.atR a (.code (.scope c) :: k)) cs w) = .next (lone (b.atR a (.code c :: .inScope c :: k)) cs w) :=
  step_lone_go (by simp [stepG, stepG.exec, Frame.atR])
theorem stepR_inScope {c : Code} : step P (lone (b.atR a (.inScope c :: k)) cs w) = .next (lone (b.atR a k) cs w) :=
  step_lone_go (by simp [stepG, stepG.exec, Frame.atR])
end
theorem findLabel_ok : ∀ {c : Code} {l : Nat} {rest : Code}, codeOk c = true → findLabel c l = some rest → codeOk rest = true := by
  intro c
  induction c with
  | seq x y ihx ihy =>
    intro l rest hc h
    simp only [codeOk, Bool.and_eq_true] at hc
    simp only [findLabel] at h
    split at h
    · rename_i r hr
      cases h
      simp [codeOk, ihx hc.1 hr, hc.2]
    · exact ihy hc.2 h
  | label l' =>
    intro l rest hc h
    simp only [findLabel] at h
    split at h
    · cases h; rfl
    · cases h
  | _ => intro l rest hc h; simp [findLabel] at h
section
variable {C : Cfg} {rec : Rec} {w w' : World} {B : Nat → Nat → Prop} {Bs s0 : Nat} {μ μ' : Mu} {H H' : List HO} {a : Act} {g : List PV}

theorem pres_alloc (w : World) (O : Obj) : Pres (fun _ => False) w (w.alloc O) :=
  ⟨rfl, rfl, rfl, by simp, fun b hb _ => Go.RowKit.Below.heap_alloc w O b hb, fun b L hb => ⟨L, (Go.RowKit.Below.heap_alloc w O b (Array.getElem?_eq_some_iff.1 hb).1).trans hb⟩⟩
/-- A loop over a function is entered. -/
theorem enterLoop_sim (st : St C B Bs μ H w) (hg : RelL w (Bn B Bs μ H w) μ g a.tmps.toList) {b : Frame} (hd : DefOk s0 w a.defers) (hro : RoundOk b w) (hs0 : s0 ≤ w.heap.size) {params : Array Tmp} {assign body : Code} (ha : codeOk assign = true) (hb : codeOk body = true) :
    ∃ l mark w1 loc, (Instr.enterLoop b.fn a.tmps params assign body b.roundOf).run C.P w = .ok (l, mark) w1 ∧ loc.g = l ∧ St C B Bs (updMu μ H.length loc) (H ++ [.loop .ready none g params.toList assign body]) w1 ∧
      Ext μ H w (updMu μ H.length loc) (H ++ [.loop .ready none g params.toList assign body]) w1 ∧ DefOk s0 w1 (mark ++ a.defers) := by
  have key : ∀ (w0 : World) (L : Loop), Pres (fun _ => False) w w0 → L.state = .ready → L.pending = none → L.tmps = a.tmps → L.params = params → L.assign = assign → L.body = body → 
      St C B Bs (updMu μ H.length ⟨w0.heap.size, 0, 0, 0, true⟩) (H ++ [.loop .ready none g params.toList assign body]) (w0.alloc (.loop L)) ∧ Ext μ H w (updMu μ H.length ⟨w0.heap.size, 0, 0, 0, true⟩) (H ++ [.loop .ready none g params.toList assign body]) (w0.alloc (.loop L)) := by
    intro w0 L hp h1 h2 h3 h4 h5 h6
    obtain ⟨st1, he1⟩ := st.world hp
    have st2 := st1.grow [.loop .ready none g params.toList assign body]
    have he2 := st1.ext_grow [.loop .ready none g params.toList assign body]
    have hg2 := st1.relL he2 (st.relL he1 hg)
    obtain ⟨st3, he3⟩ := st2.alloc (st.fresh (Nat.le_refl _)) (o := .loop .ready none g params.toList assign body) (by simp) (.loop L) ⟨w0.heap.size, 0, 0, 0, true⟩ (fun _ => rfl)
      (fun B' μ' he hre => .loop rfl (World.alloc_heap_new _ _) h1 h2 (by rw [h4]) h5 h6 (by rw [h3]; exact ⟨hg2.1, fun i p u hp hu => hre _ _ (hg2.2 i p u hp hu)⟩) ha hb)
    exact ⟨st3, (he1.trans he2).trans he3⟩
  cases hr : b.roundOf with
  | none =>
    have hrun := run_enterLoop_outer (P := C.P) (w := w) b.fn a.tmps params assign body
    obtain ⟨k1, k2⟩ := key (w.alloc (.deferred (some []))) { state := .ready, pending := none, fn := b.fn, tmps := a.tmps, params := params, assign, body, defers := w.heap.size } (pres_alloc _ _) rfl rfl rfl rfl rfl rfl
    refine ⟨_, _, _, _, hrun, by simp, k1, k2, ?_⟩
    obtain ⟨Ds, h1, h2, h3⟩ := hd.ext st k2
    obtain ⟨Ds', h4, h5, h6⟩ := hd
    refine ⟨w.heap.size :: Ds, by rw [h1]; rfl, List.nodup_cons.2 ⟨fun hin => ?_, h2⟩, fun D hD => ?_⟩
    · have hDs : Ds = Ds' := by
        have : Ds.map markOf = Ds'.map markOf := by rw [← h1, h4]
        have hinj : ∀ (l1 l2 : List Nat), l1.map markOf = l2.map markOf → l1 = l2 := by
          intro l1
          induction l1 with
          | nil => intro l2 h; cases l2 with
            | nil => rfl
            | cons => cases h
          | cons x l1 ih => intro l2 h; cases l2 with
            | nil => cases h
            | cons y l2 =>
              simp only [List.map_cons, List.cons.injEq] at h
              have hxy : x = y := by have := h.1; unfold markOf at this; injection this with h1 _; injection h1
              rw [hxy, ih l2 h.2]
        exact hinj _ _ this
      rw [hDs] at hin
      have := (Array.getElem?_eq_some_iff.1 (h6 _ hin).2).1
      omega
    · rcases List.mem_cons.1 hD with rfl | hD
      · refine ⟨hs0, ?_⟩
        rw [Go.RowKit.Below.heap_alloc _ _ _ (by simp)]
        exact World.alloc_heap_new _ _
      · exact h3 D hD
  | some l0 =>
    obtain ⟨L0, hL0⟩ := hro l0 hr
    have hrun : (Instr.enterLoop b.fn a.tmps params assign body (some l0)).run C.P w = .ok (w.heap.size, []) (w.alloc (.loop { state := .ready, pending := none, fn := b.fn, tmps := a.tmps, params := params, assign, body, defers := L0.defers })) := by
      unfold Instr.enterLoop
      simp only [Sem.run_bind, run_getLoop hL0, run_newObj_alloc, Result.andThen_ok, Sem.run_pure]
    obtain ⟨k1, k2⟩ := key w { state := .ready, pending := none, fn := b.fn, tmps := a.tmps, params := params, assign, body, defers := L0.defers } (.refl _ _) rfl rfl rfl rfl rfl rfl
    exact ⟨_, _, _, _, hrun, rfl, k1, k2, by simpa using hd.ext st k2⟩

def GotoNext (c1 : Code) (l : Nat) (nx : Code) : Prop :=
  (∃ l' rest0, c1 = .seq (.label l') rest0 ∧ l' = l ∧ nx = .scope c1) ∨ ((∀ l' rest0, c1 ≠ .seq (.label l') rest0) ∧ ∃ rest, findLabel c1 l = some rest ∧ nx = .scope (.seq (.label l) rest))
theorem code_sim_n (hok : Ok C) (hr : RecSim C rec) : ∀ (n : Nat) (c : Code), SizeOf.sizeOf c ≤ n → ∀ g H x g' H', code C rec c g H = some (x, g', H') → CodeSim C c g H x g' H' := by
  intro n
  induction n with
  | zero => intro c hc; cases c <;> simp at hc
  | succ n ih =>
    intro c hsz g H x g' H' h B Bs μ w b a its k cs s0 hst hco st hg hd hro hs0
    cases c with
    | skip =>
      cases hst
      cases h
      exact ⟨μ, w, a, st, .refl _ _ _, hg, hd, .one stepR_skip⟩
    | label l =>
      cases hst
      cases h
      exact ⟨μ, w, a, st, .refl _ _ _, hg, hd, .one stepR_label⟩
    | exit id =>
      cases hst
      cases h
      exact ⟨μ, w, a, st, .refl _ _ _, hg, hd, k, rfl, Steps.refl _ _⟩
    | goto l =>
      cases hst
      cases h
      exact ⟨μ, w, a, st, .refl _ _ _, hg, hd, k, rfl, Steps.refl _ _⟩
    | ret =>
      cases hst
      cases h
      exact ⟨μ, w, a, st, .refl _ _ _, hg, hd, k, Steps.refl _ _⟩
    | refuse s => cases h
    | region id ops draw =>
      cases hst
      simp only [code] at h
      obtain ⟨⟨g1, H1⟩, h1, h2⟩ := Option.map_eq_some_iff.1 h
      cases h2
      obtain ⟨w', μ', a', k1, k2, k3, k4, k5⟩ := region_sim hok hr (id := id) hco st hg h1 b k cs
      exact ⟨μ', w', a', k2, k3, k4, by rw [k5]; exact hd.ext st k3, k1⟩
    | seq c1 c2 =>
      cases hst
      simp only [codeOk, Bool.and_eq_true] at hco
      simp only [code] at h
      have hs1 : SizeOf.sizeOf c1 ≤ n := by simp at hsz; omega
      have hs2 : SizeOf.sizeOf c2 ≤ n := by simp at hsz; omega
      split at h
      · rename_i g1 H1 h1
        obtain ⟨μ1, w1, a1, st1, he1, hg1, hd1, harr1⟩ := ih c1 hs1 _ _ _ _ _ h1 B Bs μ w b a [.code c1] (.code c2 :: k) cs s0 (.code _) hco.1 st hg hd hro hs0
        obtain ⟨μ2, w2, a2, st2, he2, hg2, hd2, harr2⟩ := ih c2 hs2 _ _ _ _ _ h B Bs μ1 w1 b a1 [.code c2] k cs s0 (.code _) hco.2 st1 hg1 hd1 (hro.ext he1) (Nat.le_trans hs0 he1.pres.size)
        refine ⟨μ2, w2, a2, st2, he1.trans he2, hg2, hd2, ?_⟩
        have hs : Steps C.P (lone (b.atR a (.code (.seq c1 c2) :: k)) cs w) (lone (b.atR a1 (.code c2 :: k)) cs w1) := .head stepR_seq harr1
        cases x with
        | normal => exact Steps.trans hs harr2
        | exit id => obtain ⟨k', hk, hs2⟩ := harr2; exact ⟨k', hk, Steps.trans hs hs2⟩
        | goto l => obtain ⟨k', hk, hs2⟩ := harr2; exact ⟨k', hk, Steps.trans hs hs2⟩
        | ret => obtain ⟨k', hs2⟩ := harr2; exact ⟨k', Steps.trans hs hs2⟩
      · rename_i hne
        obtain ⟨μ1, w1, a1, st1, he1, hg1, hd1, harr1⟩ := ih c1 hs1 _ _ _ _ _ h B Bs μ w b a [.code c1] (.code c2 :: k) cs s0 (.code _) hco.1 st hg hd hro hs0
        refine ⟨μ1, w1, a1, st1, he1, hg1, hd1, ?_⟩
        cases x with
        | normal => exact absurd h (hne _ _)
        | exit id => obtain ⟨k', hk, hs2⟩ := harr1; exact ⟨k', hk.trans rfl, .head stepR_seq hs2⟩
        | goto l => obtain ⟨k', hk, hs2⟩ := harr1; exact ⟨k', hk.trans rfl, .head stepR_seq hs2⟩
        | ret => obtain ⟨k', hs2⟩ := harr1; exact ⟨k', .head stepR_seq hs2⟩
    | cond o c1 c2 =>
      cases hst
      simp only [codeOk, Bool.and_eq_true] at hco
      simp only [code] at h
      have hs1 : SizeOf.sizeOf c1 ≤ n := by simp at hsz; omega
      have hs2 : SizeOf.sizeOf c2 ≤ n := by simp at hsz; omega
      have go : ∀ (t : Bool) (c' : Code), boolOf (opnd C g o) = some t → (if t then c1 else c2) = c' → SizeOf.sizeOf c' ≤ n → codeOk c' = true → code C rec c' g H = some (x, g', H') →
          ∃ μ' w' a', St C B Bs μ' H' w' ∧ Ext μ H w μ' H' w' ∧ RelL w' (Bn B Bs μ' H' w') μ' g' a'.tmps.toList ∧ DefOk s0 w' a'.defers ∧ Arr C.P b a [.code (.cond o c1 c2)] k cs w x a' w' := by
        intro t c' ht hc' hs' hco' h'
        have hev : a.eval o = .bool t := Rel.boolOf (opnd_rel st hg o) ht
        obtain ⟨μ1, w1, a1, st1, he1, hg1, hd1, harr1⟩ := ih c' hs' _ _ _ _ _ h' B Bs μ w b a [.code c'] k cs s0 (.code _) hco' st hg hd hro hs0
        have hstep := stepR_cond (P := C.P) (b := b) (a := a) (k := k) (cs := cs) (w := w) (x := c1) (y := c2) hev
        rw [hc'] at hstep
        refine ⟨μ1, w1, a1, st1, he1, hg1, hd1, ?_⟩
        cases x with
        | normal => exact .head hstep harr1
        | exit id => obtain ⟨k', hk, hs2⟩ := harr1; exact ⟨k', hk, .head hstep hs2⟩
        | goto l => obtain ⟨k', hk, hs2⟩ := harr1; exact ⟨k', hk, .head hstep hs2⟩
        | ret => obtain ⟨k', hs2⟩ := harr1; exact ⟨k', .head hstep hs2⟩
      split at h
      · rename_i ht; exact go true c1 ht rfl hs1 hco.1 h
      · rename_i ht; exact go false c2 ht rfl hs2 hco.2 h
      · cases h
    | block id c1 =>
      cases hst
      simp only [codeOk] at hco
      simp only [code] at h
      have hs1 : SizeOf.sizeOf c1 ≤ n := by simp at hsz; omega
      have run : ∀ x1 g1 H1, code C rec c1 g H = some (x1, g1, H1) → ∃ μ' w' a', St C B Bs μ' H1 w' ∧ Ext μ H w μ' H1 w' ∧ RelL w' (Bn B Bs μ' H1 w') μ' g1 a'.tmps.toList ∧ DefOk s0 w' a'.defers ∧ Arr C.P b a [.code c1] (.inBlock id :: k) cs w x1 a' w' :=
        fun x1 g1 H1 h1 => ih c1 hs1 _ _ _ _ _ h1 B Bs μ w b a [.code c1] (.inBlock id :: k) cs s0 (.code _) hco st hg hd hro hs0
      split at h
      · rename_i id' g1 H1 h1
        obtain ⟨μ1, w1, a1, st1, he1, hg1, hd1, harr1⟩ := run _ _ _ h1
        obtain ⟨k', hk, hs2⟩ := harr1
        split at h
        · rename_i hid
          subst hid
          cases h
          refine ⟨μ1, w1, a1, st1, he1, hg1, hd1, ?_⟩
          have hk2 : exitTo id' k' = some k := hk.trans (by simp [exitTo])
          exact .head stepR_block (Steps.trans hs2 (.one (stepR_exit hk2)))
        · rename_i hid
          cases h
          refine ⟨μ1, w1, a1, st1, he1, hg1, hd1, k', hk.trans ?_, .head stepR_block hs2⟩
          have : (id == id') = false := by simpa using fun e => hid e.symm
          simp [exitTo, this]
      · rename_i hne
        obtain ⟨μ1, w1, a1, st1, he1, hg1, hd1, harr1⟩ := run _ _ _ h
        refine ⟨μ1, w1, a1, st1, he1, hg1, hd1, ?_⟩
        cases x with
        | normal => exact .head stepR_block (Steps.trans harr1 (.one stepR_inBlock))
        | exit id' => exact absurd h (hne _ _ _)
        | goto l => obtain ⟨k', hk, hs2⟩ := harr1; exact ⟨k', hk.trans rfl, .head stepR_block hs2⟩
        | ret => obtain ⟨k', hs2⟩ := harr1; exact ⟨k', .head stepR_block hs2⟩
    | loop c1 =>
      simp only [codeOk] at hco
      simp only [code] at h
      have hs1 : SizeOf.sizeOf c1 ≤ n := by simp at hsz; omega
      have hfirst : step C.P (lone (b.atR a (its ++ k)) cs w) = .next (lone (b.atR a (.code c1 :: .inLoop c1 :: k)) cs w) := by
        cases hst with
        | code => exact stepR_loop
        | loop => exact stepR_inLoop
      split at h
      · rename_i g1 H1 h1
        obtain ⟨μ1, w1, a1, st1, he1, hg1, hd1, harr1⟩ := ih c1 hs1 _ _ _ _ _ h1 B Bs μ w b a [.code c1] (.inLoop c1 :: k) cs s0 (.code _) hco st hg hd hro hs0
        obtain ⟨μ2, w2, a2, st2, he2, hg2, hd2, harr2⟩ := hr _ _ _ _ _ _ h B Bs μ1 w1 b a1 [.inLoop c1] k cs s0 (.loop _) (by simpa [codeOk] using hco) st1 hg1 hd1 (hro.ext he1) (Nat.le_trans hs0 he1.pres.size)
        refine ⟨μ2, w2, a2, st2, he1.trans he2, hg2, hd2, ?_⟩
        have hs : Steps C.P (lone (b.atR a (its ++ k)) cs w) (lone (b.atR a1 (.inLoop c1 :: k)) cs w1) := .head hfirst harr1
        cases x with
        | normal => exact Steps.trans hs harr2
        | exit id => obtain ⟨k', hk, hs2⟩ := harr2; exact ⟨k', hk, Steps.trans hs hs2⟩
        | goto l => obtain ⟨k', hk, hs2⟩ := harr2; exact ⟨k', hk, Steps.trans hs hs2⟩
        | ret => obtain ⟨k', hs2⟩ := harr2; exact ⟨k', Steps.trans hs hs2⟩
      · rename_i hne
        obtain ⟨μ1, w1, a1, st1, he1, hg1, hd1, harr1⟩ := ih c1 hs1 _ _ _ _ _ h B Bs μ w b a [.code c1] (.inLoop c1 :: k) cs s0 (.code _) hco st hg hd hro hs0
        refine ⟨μ1, w1, a1, st1, he1, hg1, hd1, ?_⟩
        cases x with
        | normal => exact absurd h (hne _ _)
        | exit id => obtain ⟨k', hk, hs2⟩ := harr1; exact ⟨k', hk.trans rfl, .head hfirst hs2⟩
        | goto l => obtain ⟨k', hk, hs2⟩ := harr1; exact ⟨k', hk.trans rfl, .head hfirst hs2⟩
        | ret => obtain ⟨k', hs2⟩ := harr1; exact ⟨k', .head hfirst hs2⟩
    | scope c1 =>
      simp only [codeOk] at hco
      simp only [code] at h
      have hs1 : SizeOf.sizeOf c1 ≤ n := by simp at hsz; omega
      -- what is run first, and where a goto leads
      obtain ⟨c0, b0, hs0', hco0, hpre, hcode, hfb, hgo⟩ : ∃ c0 b0, SizeOf.sizeOf c0 ≤ n ∧ codeOk c0 = true ∧ Steps C.P (lone (b.atR a (its ++ k)) cs w) (lone (b.atR a (.code c0 :: .inScope b0 :: k)) cs w) ∧ (∀ o, code C rec c1 g H = some o → code C rec c0 g H = some o) ∧ (∀ l, (∀ l' rest0, c1 ≠ .seq (.label l') rest0) → findLabel b0 l = findLabel c1 l) ∧
          ∀ (l : Nat) (a1 : Act) (w1 : World) (k' : List Item) (nx : Code), gotoIn l k' = gotoIn l (.inScope b0 :: k) → GotoNext c1 l nx →
            ∃ its', Starts nx its' ∧ codeOk nx = true ∧ Steps C.P (lone (b.atR a1 (.code (.goto l) :: k')) cs w1) (lone (b.atR a1 (its' ++ k)) cs w1) := by
        cases hst with
        | code =>
          refine ⟨c1, c1, hs1, hco, .one stepR_scope, fun o h => h, fun l _ => rfl, fun l a1 w1 k' nx hk hnx => ?_⟩
          rcases hnx with ⟨l', rest0, rfl, rfl, rfl⟩ | ⟨_, rest, hfl, rfl⟩
          · have hfl : findLabel (.seq (.label l') rest0) l' = some (.seq .skip rest0) := by simp [findLabel]
            refine ⟨[.code rest0, .inScope (.seq (.label l') rest0)], .scope l' rest0 _ (.inr hfl), by simpa [codeOk] using hco, ?_⟩
            have hk2 : gotoIn l' k' = some (.code (.seq .skip rest0) :: .inScope (.seq (.label l') rest0) :: k) := hk.trans (by simp [gotoIn, hfl])
            exact .head (stepR_goto hk2) (.head stepR_seq (.one stepR_skip))
          · refine ⟨[.code rest, .inScope c1], .scope l rest _ (.inl hfl), by simpa [codeOk] using findLabel_ok hco hfl, ?_⟩
            have hk2 : gotoIn l k' = some (.code rest :: .inScope c1 :: k) := hk.trans (by simp [gotoIn, hfl])
            exact .one (stepR_goto hk2)
        | scope l0 rest0 b0 hfl =>
          simp only [codeOk, Bool.true_and] at hco
          refine ⟨rest0, b0, by simp at hs1; omega, hco, Steps.refl _ _, fun o h => by simpa [code] using h, fun l h => absurd rfl (h l0 rest0), fun l a1 w1 k' nx hk hnx => ?_⟩
          obtain ⟨rfl, rfl⟩ : l0 = l ∧ nx = .scope (.seq (.label l0) rest0) := by
            rcases hnx with ⟨l', r', he, hl, hn⟩ | ⟨h, _⟩
            · injection he with he _
              injection he with he
              exact ⟨he.trans hl, hn⟩
            · exact absurd rfl (h l0 rest0)
          refine ⟨[.code rest0, .inScope b0], .scope l0 rest0 b0 hfl, by simpa [codeOk] using hco, ?_⟩
          rcases hfl with hfl | hfl
          · have hk2 : gotoIn l0 k' = some (.code rest0 :: .inScope b0 :: k) := hk.trans (by simp [gotoIn, hfl])
            exact .one (stepR_goto hk2)
          · have hk2 : gotoIn l0 k' = some (.code (.seq .skip rest0) :: .inScope b0 :: k) := hk.trans (by simp [gotoIn, hfl])
            exact .head (stepR_goto hk2) (.head stepR_seq (.one stepR_skip))
      have run : ∀ x1 g1 H1, code C rec c1 g H = some (x1, g1, H1) → ∃ μ' w' a', St C B Bs μ' H1 w' ∧ Ext μ H w μ' H1 w' ∧ RelL w' (Bn B Bs μ' H1 w') μ' g1 a'.tmps.toList ∧ DefOk s0 w' a'.defers ∧ Arr C.P b a [.code c0] (.inScope b0 :: k) cs w x1 a' w' :=
        fun x1 g1 H1 h1 => ih c0 hs0' _ _ _ _ _ (hcode _ h1) B Bs μ w b a [.code c0] (.inScope b0 :: k) cs s0 (.code _) hco0 st hg hd hro hs0
      have again : ∀ (l : Nat) (g1 : List PV) (H1 : List HO) (nx : Code), code C rec c1 g H = some (.goto l, g1, H1) → GotoNext c1 l nx → rec nx g1 H1 = some (x, g', H') →
          ∃ μ' w' a', St C B Bs μ' H' w' ∧ Ext μ H w μ' H' w' ∧ RelL w' (Bn B Bs μ' H' w') μ' g' a'.tmps.toList ∧ DefOk s0 w' a'.defers ∧ Arr C.P b a its k cs w x a' w' := by
        intro l g1 H1 nx h1 hnx hrec
        obtain ⟨μ1, w1, a1, st1, he1, hg1, hd1, k', hk, hs⟩ := run _ _ _ h1
        obtain ⟨its', i1, i2, i3⟩ := hgo l a1 w1 k' nx hk hnx
        obtain ⟨μ2, w2, a2, st2, he2, hg2, hd2, harr2⟩ := hr _ _ _ _ _ _ hrec B Bs μ1 w1 b a1 its' k cs s0 i1 i2 st1 hg1 hd1 (hro.ext he1) (Nat.le_trans hs0 he1.pres.size)
        refine ⟨μ2, w2, a2, st2, he1.trans he2, hg2, hd2, ?_⟩
        have hss : Steps C.P (lone (b.atR a (its ++ k)) cs w) (lone (b.atR a1 (its' ++ k)) cs w1) := Steps.trans hpre (Steps.trans hs i3)
        cases x with
        | normal => exact Steps.trans hss harr2
        | exit id => obtain ⟨k', hk, hs2⟩ := harr2; exact ⟨k', hk, Steps.trans hss hs2⟩
        | goto l => obtain ⟨k', hk, hs2⟩ := harr2; exact ⟨k', hk, Steps.trans hss hs2⟩
        | ret => obtain ⟨k', hs2⟩ := harr2; exact ⟨k', Steps.trans hss hs2⟩
      split at h
      · rename_i l g1 H1 h1
        split at h
        · rename_i l' rest0
          split at h
          · rename_i hl
            exact again l g1 H1 _ h1 (.inl ⟨l', rest0, rfl, hl, rfl⟩) h
          · cases h
        · rename_i hno
          split at h
          · rename_i rest hfl
            exact again l g1 H1 _ h1 (.inr ⟨fun l' r' he => hno l' r' he, rest, hfl, rfl⟩) h
          · rename_i hfl
            cases h
            obtain ⟨μ1, w1, a1, st1, he1, hg1, hd1, k', hk, hs⟩ := run _ _ _ h1
            refine ⟨μ1, w1, a1, st1, he1, hg1, hd1, k', hk.trans ?_, Steps.trans hpre hs⟩
            have hb0 : findLabel b0 l = none := (hfb l (fun l' r' he => hno l' r' he)).trans hfl
            simp [gotoIn, hb0]
      · rename_i hne
        obtain ⟨μ1, w1, a1, st1, he1, hg1, hd1, harr1⟩ := run _ _ _ h
        refine ⟨μ1, w1, a1, st1, he1, hg1, hd1, ?_⟩
        cases x with
        | normal => exact Steps.trans hpre (Steps.trans harr1 (.one stepR_inScope))
        | exit id => obtain ⟨k', hk, hs2⟩ := harr1; exact ⟨k', hk.trans rfl, Steps.trans hpre hs2⟩
        | goto l => exact absurd h (hne _ _ _)
        | ret => obtain ⟨k', hs2⟩ := harr1; exact ⟨k', Steps.trans hpre hs2⟩
    | rangeFunc f params assign body =>
      cases hst
      simp only [codeOk, Bool.and_eq_true] at hco
      simp only [code] at h
      split at h
      · rename_i k1 first caps hf
        split at h
        · rename_i hinl
          split at h
          · rename_i v H2 hic
            split at h
            · rename_i s3 pend g3 ps3 as3 bo3 ho3
              split at h
              · cases h
              · rename_i hbusy
                split at h
                · rename_i x' hx
                  cases h
                  obtain ⟨l, mark, w1, loc, hrun, hl, st1, he1, hd1⟩ := enterLoop_sim st hg hd hro hs0 (params := params) hco.1 hco.2
                  have hrf : Rel w1 (Bn B Bs (updMu μ H.length loc) (H ++ [.loop .ready none g params.toList assign body]) w1) (updMu μ H.length loc) (.fn k1 first caps) (a.eval f) := by
                    have := st.rel he1 (opnd_rel st hg f)
                    rw [hf] at this
                    exact this
                  obtain ⟨vf, vc, huf, hargs⟩ := fn_args (args := [.yld H.length]) (vargs := #[.func (.yield l) #[] #[]]) hrf (.cons (by rw [← hl]; exact Rel.yld (updMu_self _ _ _)) .nil)
                  unfold icall at hic
                  obtain ⟨⟨vs, H3⟩, hbr, he⟩ := Option.map_eq_some_iff.1 hic
                  cases he
                  obtain ⟨hen, hsim⟩ := fn_sim hok hr hbr
                  have hres : (resolve a.eval (rangeCall f l) 0).run C.P w1 = .ok { target := .fn (.func k1) vc, args := vf ++ #[.func (.yield l) #[] #[]] } w1 := by
                    have hcv : a.eval (.const (.func (.yield l) #[] #[])) = .func (.yield l) #[] #[] := rfl
                    simp [resolve, rangeCall, huf, hcv, Deferred.ofValue]
                  have hinv : (invoke (.fn (.func k1) vc) (vf ++ #[.func (.yield l) #[] #[]])).run C.P w1 = .ok (.enter k1 (vf ++ #[.func (.yield l) #[] #[]] ++ vc)) w1 := by
                    simp only [invoke]
                    exact run_enter hok hen _ _
                  have hstep := stepR_rangeFunc (P := C.P) (b := b) (a := a) (k := k) (cs := cs) (w := w) hrun hres hinv
                  obtain ⟨μ2, w2, fr, us, s1, s2, s3', st2, he2, hus⟩ := hsim B Bs _ w1 _ (b.atR { a with defers := mark ++ a.defers } (.inRangeFunc l :: k) :: cs) st1 hargs
                  have hmu2 := he2.mu H.length loc (updMu_self _ _ _)
                  obtain ⟨L2, hh2, q1, q2, st3, he3⟩ := st2.setLoop hmu2 ho3 .exhausted pend
                  have hend := run_endLoop (P := C.P) hh2 (by rw [q1]; exact hbusy)
                  subst q2
                  subst hl
                  have hall := (he1.trans he2).trans he3
                  have hsteps : Steps C.P (lone (b.atR a (.code (.rangeFunc f params assign body) :: k)) cs w) (lone (b.atR { a with defers := mark ++ a.defers } ((L2.pending.map Item.code).toList ++ k)) cs (w2.putObj loc.g (.loop { L2 with state := .exhausted }))) := by
                    refine .head hstep (Steps.trans s1 (.head ?_ (.one (stepR_endRangeFunc hend))))
                    rw [← finish_atR_inRangeFunc loc.g (retOf us)]
                    exact step_leave_returned s3'
                  refine ⟨μ2, _, { a with defers := mark ++ a.defers }, st3, hall, st.relL hall hg, (hd1.ext st1 he2).ext st2 he3, ?_⟩
                  have fin : ∀ (pp : Option Code), L2.pending = pp → exOf pp = some x → Arr C.P b a [.code (.rangeFunc f params assign body)] k cs w x { a with defers := mark ++ a.defers } (w2.putObj loc.g (.loop { L2 with state := .exhausted })) := by
                    intro pp hpp hxx
                    have e1 : (L2.pending.map Item.code).toList ++ k = (pp.map Item.code).toList ++ k := by rw [hpp]
                    rw [e1] at hsteps
                    unfold exOf at hxx
                    split at hxx <;> cases hxx
                    · exact hsteps
                    · exact ⟨k, rfl, hsteps⟩
                    · exact ⟨k, rfl, hsteps⟩
                    · exact ⟨k, hsteps⟩
                  exact fin _ rfl hx
                · cases h
            · cases h
          · cases h
        · cases h
      · cases h

theorem code_sim (hok : Ok C) (hr : RecSim C rec) : RecSim C (code C rec) := fun c g H x g' H' h => code_sim_n hok hr _ c (Nat.le_refl _) g H x g' H' h
theorem run_sim (hok : Ok C) : ∀ k, RecSim C (run C k)
  | 0 => fun c g H x g' H' h => by cases h
  | k + 1 => code_sim hok (run_sim hok k)
/-- **The pure interpreter says what the machine does.** -/
theorem lim_sim (hok : Ok C) : RecSim C (lim C) := fun c g H x g' H' h => by
  obtain ⟨k, hk⟩ := (lim_iff C).1 h
  exact run_sim hok k c g H x g' H' hk
/-- What a function comes to, called with closed arguments. -/
def Run (C : Cfg) (f : FuncId) (args : List PV) (q : PV) : Prop := pcall C (lim C) f args = some q
theorem run_calls (hok : Ok C) {f : FuncId} {args : List PV} {q : PV} (h : Run C f args q) : CallsQ C f args q := pcall_sim hok (lim_sim hok) h
end
end Go.PI

end
section
/- The pure interpreter and its simulation, part 27. -/
set_option linter.unusedSimpArgs false
set_option linter.unusedVariables false
namespace Go.PI
/-- What lies in the heap. -/
def inHeap (W : World) (_ b : Nat) : Prop := b < W.heap.size
/-- A law's call. -/
theorem run_law {C : Cfg} (hok : Ok C) {f : FuncId} {ps : List PV} (h : Run C f ps (boolP true)) {W : World} {args : Array Value}
    (hglob : ∀ n e cs, C.glob n = some (e, cs) → Rel W (inHeap W) mu0 (.lptr e cs) (.pointer (some ⟨n, 0, none⟩))) (ha : RelL W (inHeap W) mu0 ps args.toList) :
    Calls C.P f args W fun e W' => e = .returned (.bool true) ∧ RowKit.Below W.heap.size W W' := by
  intro cs
  obtain ⟨_, hc⟩ := run_calls hok h
  obtain ⟨w', fr, v, h1, h2, h3, h4, qs, us, bs, h5, _, _, h6⟩ := hc W (inHeap W) args (fun e b h => h) hglob ha cs
  have hv : v = .bool true := by
    rcases h5 with ⟨h5, _⟩ | ⟨_, rfl, rfl⟩
    · cases h5
    · cases h6 with
      | plain hn hr _ => exact hr.sInv
  subst hv
  exact ⟨.returned (.bool true), w', fr, ⟨rfl, h4.os, h4.tape, h4.output, h4.size, fun k hk => h4.block k hk (fun h => h)⟩, h1, h2, h3⟩
/-- A laid table, as cells that nobody writes. -/
theorem glob_rel {P : Program} {W : World} {name : String} {k : IntKind} {zs : List Int} {g : Nat} (h : Lib.TabIs P W name k zs) (hg : P.globalNamed name = some g) (hz : 0 < zs.length) (e : Nat) :
    Rel W (inHeap W) mu0 (.lptr e (zs.map fun z => .s (.int k z))) (.pointer (some ⟨g, 0, none⟩)) := by
  have hc := fun i hi => h.cell hg i hi
  refine .lptr (zs.map fun z => .int k z) ?_ rfl (by simp) (fun i u hu => ?_) (fun p hp => ?_) (fun i p u hp hu => ?_)
  · have := hc 0 hz
    show g < W.heap.size
    simp only [World.cell?] at this
    split at this
    · rename_i hh
      exact (Array.getElem?_eq_some_iff.1 hh).1
    · cases this
  · rw [List.getElem?_map] at hu
    obtain ⟨z, hz', rfl⟩ := Option.map_eq_some_iff.1 hu
    have hi := (List.getElem?_eq_some_iff.1 hz').1
    rw [add_plain', Nat.zero_add]
    rw [hc i hi]
    simp [List.getD_eq_getElem?_getD, hz']
  · obtain ⟨z, _, rfl⟩ := List.mem_map.1 hp
    rfl
  · rw [List.getElem?_map] at hp hu
    obtain ⟨z, hz1, rfl⟩ := Option.map_eq_some_iff.1 hp
    rw [hz1] at hu
    cases hu
    exact .s rfl
end Go.PI

end
section
/- The pure interpreter and its simulation, part 28. -/
set_option linter.unusedSimpArgs false
set_option linter.unusedVariables false
namespace Go.PI
section
variable {C : Cfg}
theorem tmp_set (g : List PV) (i j : Nat) (v : PV) (h : i < g.length) : (g.set i v).getD j undefP = if i = j then v else g.getD j undefP := by
  rw [List.getD_eq_getElem?_getD, List.getD_eq_getElem?_getD, List.getElem?_set]
  split
  · simp [h]
  · rfl
theorem tmp_set_ne (g : List PV) (i j : Nat) (v : PV) (h : i ≠ j) : (g.set i v).getD j undefP = g.getD j undefP := by
  rw [List.getD_eq_getElem?_getD, List.getD_eq_getElem?_getD, List.getElem?_set_ne h]
/-- A loop, with what holds at its head. -/
theorem loop_rule {b : Code} (I : Nat → List PV → List HO → Prop) (Q : Ex → List PV → List HO → Prop) (n : Nat)
    (hstep : ∀ i g H, I i g H → i ≤ n → (i < n ∧ ∃ g' H', code C (lim C) b g H = some (.normal, g', H') ∧ I (i + 1) g' H') ∨ ∃ x g' H', x ≠ .normal ∧ code C (lim C) b g H = some (x, g', H') ∧ Q x g' H') :
    ∀ (k i : Nat) (g : List PV) (H : List HO), i + k = n → I i g H → ∃ x g' H', code C (lim C) (.loop b) g H = some (x, g', H') ∧ Q x g' H'
  | 0, i, g, H, hk, h0 => by
    rcases hstep i g H h0 (by omega) with ⟨h, _⟩ | ⟨x, g', H', hx, h1, h2⟩
    · omega
    · refine ⟨x, g', H', ?_, h2⟩
      simp only [code, h1]
      split
      · rename_i he; cases he; exact absurd rfl hx
      · rfl
  | k + 1, i, g, H, hk, h0 => by
    rcases hstep i g H h0 (by omega) with ⟨_, g', H', h1, h2⟩ | ⟨x, g', H', hx, h1, h2⟩
    · obtain ⟨x, g2, H2, h3, h4⟩ := loop_rule I Q n hstep k (i + 1) g' H' (by omega) h2
      refine ⟨x, g2, H2, ?_, h4⟩
      rw [code]
      simp only [h1]
      rw [lim_eq]
      exact h3
    · refine ⟨x, g', H', ?_, h2⟩
      simp only [code, h1]
      split
      · rename_i he; cases he; exact absurd rfl hx
      · rfl
/-- So many layers are enough. -/
theorem run_of {k : Nat} {f : FuncId} {args : List PV} {q : PV} (h : pcall C (run C k) f args = some q) : Run C f args q := by
  obtain ⟨K, hK⟩ := pcall_cont (rs := fun _ => lim C) C (fun c g H o hh => .of fun _ => (lim_iff C).2 ⟨k, hh⟩) h
  exact hK K (Nat.le_refl _)
end
end Go.PI

end
