/- The pure interpreter of the dump's language and the proof that the model does what it does, texts Zd to Zm, for any program. -/
import Derived.Test.YtkkdkhacligaoaaGreatDoorMc
import Derived.Sort.Grow
import Derived.Deep.Slices
import Derived.ChangeArms
import Derived.DataReads
section
/- The pure interpreter and its simulation, part 29. -/
set_option linter.unusedSimpArgs false
set_option linter.unusedVariables false
namespace Go.PI
/-- What code comes to, asked forwards. -/
def WP (C : Cfg) (c : Code) (g : List PV) (H : List HO) (Q : Ex → List PV → List HO → Prop) : Prop := ∃ x g' H', code C (lim C) c g H = some (x, g', H') ∧ Q x g' H'
def WPo (C : Cfg) (d : Bool) (ops : Array Oper) (l : List Oper) (g : List PV) (H : List HO) (K : List PV → List HO → Prop) : Prop := ∃ g' H', opsRun C (lim C) d ops l g H = some (g', H') ∧ K g' H'
def cnd (o : Option Bool) (X Y : Prop) : Prop := match o with
  | some true => X
  | some false => Y
  | none => False
def thenN (x : Ex) (X : Prop) (Y : Prop) : Prop := match x with
  | .normal => X
  | _ => Y
def unblock (id : Nat) : Ex → Ex
  | .exit id' => if id' = id then .normal else .exit id'
  | x => x
section
variable {C : Cfg} {g : List PV} {H : List HO} {Q : Ex → List PV → List HO → Prop}
theorem cnd_some (b : Bool) (X Y : Prop) : cnd (some b) X Y ↔ (b = true → X) ∧ (b = false → Y) := by cases b <;> simp [cnd]
theorem thenN_normal (X Y : Prop) : thenN .normal X Y ↔ X := Iff.rfl
theorem thenN_ret (X Y : Prop) : thenN .ret X Y ↔ Y := Iff.rfl
theorem thenN_exit (id : Nat) (X Y : Prop) : thenN (.exit id) X Y ↔ Y := Iff.rfl
theorem thenN_goto (id : Nat) (X Y : Prop) : thenN (.goto id) X Y ↔ Y := Iff.rfl
theorem pi_skip : WP C .skip g H Q ↔ Q .normal g H := ⟨fun ⟨x, g', H', h, k⟩ => by cases h; exact k, fun h => ⟨_, _, _, rfl, h⟩⟩
theorem pi_exit (id : Nat) : WP C (.exit id) g H Q ↔ Q (.exit id) g H := ⟨fun ⟨x, g', H', h, k⟩ => by cases h; exact k, fun h => ⟨_, _, _, rfl, h⟩⟩
theorem pi_ret : WP C .ret g H Q ↔ Q .ret g H := ⟨fun ⟨x, g', H', h, k⟩ => by cases h; exact k, fun h => ⟨_, _, _, rfl, h⟩⟩
theorem pi_seq (a b : Code) : WP C (.seq a b) g H Q ↔ WP C a g H fun x g' H' => thenN x (WP C b g' H' Q) (Q x g' H') := by
  constructor
  · rintro ⟨x, g', H', h, k⟩
    simp only [code] at h
    split at h
    · rename_i g1 H1 h1
      exact ⟨.normal, g1, H1, h1, x, g', H', h, k⟩
    · rename_i hne
      refine ⟨x, g', H', h, ?_⟩
      cases x with
      | normal => exact absurd h (hne _ _)
      | _ => exact k
  · rintro ⟨x, g1, H1, h1, k⟩
    cases x with
    | normal =>
      obtain ⟨x, g', H', h, k⟩ := k
      exact ⟨x, g', H', by simp only [code, h1]; exact h, k⟩
    | _ => exact ⟨_, g1, H1, by simp only [code, h1], k⟩
theorem pi_cond (o : Operand) (a b : Code) : WP C (.cond o a b) g H Q ↔ cnd (boolOf (opnd C g o)) (WP C a g H Q) (WP C b g H Q) := by
  unfold WP
  simp only [code]
  cases boolOf (opnd C g o) with
  | none => simp [cnd]
  | some b => cases b <;> simp [cnd]
theorem pi_block (id : Nat) (b : Code) : WP C (.block id b) g H Q ↔ WP C b g H fun x g' H' => Q (unblock id x) g' H' := by
  constructor
  · rintro ⟨x, g', H', h, k⟩
    simp only [code] at h
    split at h
    · rename_i id' g1 H1 h1
      refine ⟨_, _, _, h1, ?_⟩
      unfold unblock
      split at h
      · rename_i he; cases h; simp [he, k]
      · rename_i he; cases h; simp [he, k]
    · rename_i hne
      refine ⟨_, _, _, h, ?_⟩
      cases x with
      | exit id' => exact absurd h (hne _ _ _)
      | _ => exact k
  · rintro ⟨x, g1, H1, h1, k⟩
    cases x with
    | exit id' =>
      by_cases he : id' = id
      · refine ⟨.normal, g1, H1, by simp only [code, h1, he, if_true], ?_⟩
        simpa [unblock, he] using k
      · refine ⟨.exit id', g1, H1, by simp only [code, h1, he, if_false], ?_⟩
        simpa [unblock, he] using k
    | normal => exact ⟨.normal, g1, H1, by simp only [code, h1], k⟩
    | goto l => exact ⟨.goto l, g1, H1, by simp only [code, h1], k⟩
    | ret => exact ⟨.ret, g1, H1, by simp only [code, h1], k⟩
theorem pi_region (id : Nat) (ops : Array Oper) (d : Bool) : WP C (.region id ops d) g H Q ↔ WPo C d ops ops.toList g H fun g' H' => Q .normal g' H' := by
  constructor
  · rintro ⟨x, g', H', h, k⟩
    simp only [code] at h
    obtain ⟨⟨g1, H1⟩, h1, h2⟩ := Option.map_eq_some_iff.1 h
    cases h2
    exact ⟨g1, H1, h1, k⟩
  · rintro ⟨g1, H1, h1, k⟩
    exact ⟨.normal, g1, H1, by simp only [code, h1]; rfl, k⟩
variable {d : Bool} {ops : Array Oper} {K : List PV → List HO → Prop}
theorem wpo_nil : WPo C d ops [] g H K ↔ K g H := ⟨fun ⟨g', H', h, k⟩ => by cases h; exact k, fun h => ⟨_, _, rfl, h⟩⟩
def onto (s : Option (List PV × List HO)) (K : List PV → List HO → Prop) : Prop := match s with
  | some (g, H) => K g H
  | none => False
theorem onto_some (g : List PV) (H : List HO) (K : List PV → List HO → Prop) : onto (some (g, H)) K ↔ K g H := Iff.rfl
theorem wpo_cons (o : Oper) (l : List Oper) : WPo C d ops (o :: l) g H K ↔ onto (opStep C (lim C) d ops o g H) fun g' H' => WPo C d ops l g' H' K := by
  unfold WPo
  simp only [opsRun]
  cases opStep C (lim C) d ops o g H with
  | none => simp [onto]
  | some s => obtain ⟨g1, H1⟩ := s; simp [onto]
theorem pi_mono {c : Code} {Q' : Ex → List PV → List HO → Prop} (h : WP C c g H Q) (hq : ∀ x g' H', Q x g' H' → Q' x g' H') : WP C c g H Q' := by
  obtain ⟨x, g', H', h1, h2⟩ := h
  exact ⟨x, g', H', h1, hq _ _ _ h2⟩
/-- A loop: what holds at its head, how often at most. -/
theorem pi_loop {b : Code} (I : Nat → List PV → List HO → Prop) (n : Nat) (h0 : I 0 g H) (hstep : ∀ i g H, i ≤ n → I i g H → WP C b g H fun x g' H' => thenN x (i < n ∧ I (i + 1) g' H') (Q x g' H')) : WP C (.loop b) g H Q := by
  obtain ⟨x, g', H', h1, h2⟩ := loop_rule (C := C) (b := b) I Q n (fun i g H hI hi => by
    obtain ⟨x, g', H', h1, h2⟩ := hstep i g H hi hI
    cases x with
    | normal => exact .inl ⟨h2.1, g', H', h1, h2.2⟩
    | exit id =>
      have hne : Ex.exit id ≠ Ex.normal := by intro h; cases h
      exact .inr ⟨Ex.exit id, g', H', hne, h1, h2⟩
    | goto l =>
      have hne : Ex.goto l ≠ Ex.normal := by intro h; cases h
      exact .inr ⟨Ex.goto l, g', H', hne, h1, h2⟩
    | ret =>
      have hne : Ex.ret ≠ Ex.normal := by intro h; cases h
      exact .inr ⟨Ex.ret, g', H', hne, h1, h2⟩) n 0 g H (by omega) h0
  exact ⟨x, g', H', h1, h2⟩
/-- A function. -/
theorem run_wp {f : FuncId} {args : List PV} {q : PV} {fn : Func} {c : Code} (hf : C.P.funcs[f]? = some fn) (hb : fn.body = some c) (hfi : C.fine f = true) (he : C.ext f args = none)
    (h : WP C c (args ++ List.replicate (fn.ntmps - args.length) undefP) [] fun x g H => (x = .normal ∨ x = .ret) ∧ ∃ vs qs, mapRes (resVar C g H) fn.results.toList = some vs ∧ closeAll C H fn.resultTypes.toList vs 0 vs = some qs ∧ tupOf qs = q) : Run C f args q := by
  obtain ⟨x, g, H, h1, h2, vs, qs, h3, h4, h5⟩ := h
  unfold Run pcall bodyRun
  simp only [he, hf, hb, hfi, if_true]
  rw [lim_eq, h1]
  simp only [h2, if_true, h3, Option.map_some, h4, h5]
end
end Go.PI

end
section
/- The pure interpreter and its simulation, part 30. -/
set_option linter.unusedSimpArgs false
set_option linter.unusedVariables false
namespace Go.PI
section
variable {C : Cfg} {g : List PV} {H : List HO} {d : Bool} {ops : Array Oper} {K : List PV → List HO → Prop} {l : List Oper} {ty : TypeId} {pos : String} {after : Array Edge} {dst : Option Tmp}
/-- An operation that writes nothing that was there and is no call. -/
theorem s_q {op : Op} (hop : ∀ c, op ≠ .call c) (hq : quiet { dst, op, type := ty, pos, after, guard := none } = true) {v : PV} {new : List HO} (h : qop C { dst, op, type := ty, pos, after, guard := none } g H = some (v, new)) :
    WPo C d ops ({ dst, op, type := ty, pos, after, guard := none } :: l) g H K ↔ WPo C d ops l (setD g dst v) (H ++ new) K := by
  rw [wpo_cons]
  have : opStep C (lim C) d ops { dst, op, type := ty, pos, after, guard := none } g H = some (setD g dst v, H ++ new) := by
    unfold opStep
    simp only [wantedP, hq, Bool.true_and]
    cases d with
    | false => simp only [Bool.false_eq_true, if_false, h]
    | true =>
      have hd : dop C (lim C) { dst, op, type := ty, pos, after, guard := none } g H = some (v, new) := by
        unfold dop
        cases op with
        | call c => exact absurd rfl (hop c)
        | _ => exact h
      simp only [if_true, hd]
  rw [this, onto_some]
theorem s_one {op : Op} (hop : ∀ c, op ≠ .call c) (hq : quiet { dst, op, type := ty, pos, after, guard := none } = true) {p : Option PV} (h : qop C { dst, op, type := ty, pos, after, guard := none } g H = p.map fun v => (v, []))
    (hx : ∃ v, p = some v ∧ WPo C d ops l (setD g dst v) H K) : WPo C d ops ({ dst, op, type := ty, pos, after, guard := none } :: l) g H K := by
  obtain ⟨v, rfl, hk⟩ := hx
  rw [s_q hop hq (v := v) (new := []) h]
  simpa using hk
theorem s_move {x : Operand} : WPo C d ops ({ dst, op := .move x, type := ty, pos, after, guard := none } :: l) g H K ↔ WPo C d ops l (setD g dst (opnd C g x)) H K := by
  rw [s_q (fun c h => by cases h) rfl (v := opnd C g x) (new := []) rfl]
  simp
theorem s_assign {x : Operand} : WPo C d ops ({ dst, op := .assign x, type := ty, pos, after, guard := none } :: l) g H K ↔ WPo C d ops l (setD g dst (opnd C g x)) H K := by
  rw [s_q (fun c h => by cases h) rfl (v := opnd C g x) (new := []) rfl]
  simp
theorem s_bin {op : BinOp} {xt yt : TypeId} {x y : Operand} (h : ∃ v, binP C op xt (opnd C g x) (opnd C g y) = some v ∧ WPo C d ops l (setD g dst v) H K) :
    WPo C d ops ({ dst, op := .binOp op xt x y yt, type := ty, pos, after, guard := none } :: l) g H K := s_one (fun c h => by cases h) rfl rfl h
theorem s_un {op : UnOp} {xt : TypeId} {x : Operand} (h : ∃ v, unP op (opnd C g x) = some v ∧ WPo C d ops l (setD g dst v) H K) :
    WPo C d ops ({ dst, op := .unOp op xt x, type := ty, pos, after, guard := none } :: l) g H K := s_one (fun c h => by cases h) rfl rfl h
theorem s_load {t : TypeId} {x : Operand} (h : ∃ v, loadP C H t (opnd C g x) = some v ∧ WPo C d ops l (setD g dst v) H K) :
    WPo C d ops ({ dst, op := .load t x, type := ty, pos, after, guard := none } :: l) g H K := s_one (fun c h => by cases h) rfl rfl h
theorem s_fieldAddr {t : TypeId} {x : Operand} {f : Nat} (h : ∃ v, fieldAddrP C t (opnd C g x) f = some v ∧ WPo C d ops l (setD g dst v) H K) :
    WPo C d ops ({ dst, op := .fieldAddr t x f, type := ty, pos, after, guard := none } :: l) g H K := s_one (fun c h => by cases h) rfl rfl h
theorem s_field {t : TypeId} {x : Operand} {f : Nat} (h : ∃ v, fieldV C t (opnd C g x) f = some v ∧ WPo C d ops l (setD g dst v) H K) :
    WPo C d ops ({ dst, op := .field t x f, type := ty, pos, after, guard := none } :: l) g H K := s_one (fun c h => by cases h) rfl rfl h
theorem s_indexAddr {t : TypeId} {x i : Operand} (h : ∃ v, indexAddrP C H t (opnd C g x) (opnd C g i) = some v ∧ WPo C d ops l (setD g dst v) H K) :
    WPo C d ops ({ dst, op := .indexAddr t x i, type := ty, pos, after, guard := none } :: l) g H K := s_one (fun c h => by cases h) rfl rfl h
theorem s_index {t : TypeId} {x i : Operand} (h : ∃ v, indexV C t (opnd C g x) (opnd C g i) = some v ∧ WPo C d ops l (setD g dst v) H K) :
    WPo C d ops ({ dst, op := .index t x i, type := ty, pos, after, guard := none } :: l) g H K := s_one (fun c h => by cases h) rfl rfl h
theorem s_convert {s t : TypeId} {x : Operand} (h : ∃ v, convP C H s t (opnd C g x) = some v ∧ WPo C d ops l (setD g dst v) H K) :
    WPo C d ops ({ dst, op := .convert s t x, type := ty, pos, after, guard := none } :: l) g H K := s_one (fun c h => by cases h) rfl rfl h
theorem s_slice {t : TypeId} {x : Operand} {lo hi mx : Option Operand} (h : ∃ v, sliceP C H t (opnd C g x) (lo.map (opnd C g)) (hi.map (opnd C g)) (mx.map (opnd C g)) = some v ∧ WPo C d ops l (setD g dst v) H K) :
    WPo C d ops ({ dst, op := .slice t x lo hi mx, type := ty, pos, after, guard := none } :: l) g H K := s_one (fun c h => by cases h) rfl rfl h
theorem s_build {t : TypeId} {parts : Array (Nat × Operand)} (h : ∃ v, buildP C t (parts.toList.map fun (i, x) => (i, opnd C g x)) = some v ∧ WPo C d ops l (setD g dst v) H K) :
    WPo C d ops ({ dst, op := .build t parts, type := ty, pos, after, guard := none } :: l) g H K := s_one (fun c h => by cases h) rfl rfl h
theorem s_alloc {e : TypeId} {z : List PV} (hz : zeroP C e = some z) (h : WPo C d ops l (setD g dst (.ptr H.length 0)) (H ++ [.cells e z none false]) K) :
    WPo C d ops ({ dst, op := .alloc e, type := ty, pos, after, guard := none } :: l) g H K := by
  rw [s_q (fun c h => by cases h) rfl (v := .ptr H.length 0) (new := [.cells e z none false]) (by simp only [qop, hz]; rfl)]
  exact h
theorem s_pick {c x y : Operand} {b : Bool} (hb : opnd C g c = .s (.bool b)) : WPo C d ops ({ dst, op := .pick c x y, type := ty, pos, after, guard := none } :: l) g H K ↔ WPo C d ops l (setD g dst (if b then opnd C g x else opnd C g y)) H K := by
  rw [s_q (fun c h => by cases h) rfl (v := if b then opnd C g x else opnd C g y) (new := []) (by simp only [qop, hb]; rfl)]
  simp
/-- A guard. -/
theorem s_guard {op : Op} {j : Nat} {w b : Bool} {dd : Tmp} (hd : (ops[j]?).bind (·.dst) = some dd) (hb : g.getD dd undefP = .s (.bool b))
    (h1 : b = w → WPo C d ops ({ dst, op, type := ty, pos, after, guard := none } :: l) g H K) (h2 : b ≠ w → WPo C d ops l (setD g dst undefP) H K) :
    WPo C d ops ({ dst, op, type := ty, pos, after, guard := some (j, w) } :: l) g H K := by
  have hw : wantedP ops { dst, op, type := ty, pos, after, guard := some (j, w) } g = some (b == w) := by
    unfold wantedP
    simp only [hd, hb]
  rw [wpo_cons]
  by_cases he : b = w
  · have h3 := h1 he
    rw [wpo_cons] at h3
    have : opStep C (lim C) d ops { dst, op, type := ty, pos, after, guard := some (j, w) } g H = opStep C (lim C) d ops { dst, op, type := ty, pos, after, guard := none } g H := by
      unfold opStep
      rw [hw]
      have : (b == w) = true := by simpa using he
      rw [this]
      rfl
    rw [this]
    exact h3
  · have : opStep C (lim C) d ops { dst, op, type := ty, pos, after, guard := some (j, w) } g H = some (setD g dst undefP, H) := by
      unfold opStep
      rw [hw]
      have : (b == w) = false := by simpa using he
      rw [this]
    rw [this]
    exact h2 he

theorem seal_calm {q : PV} (h : calm H q = true) : sealH H q = H := by
  unfold sealH
  have : ∀ o ∈ H, sealO q o = o := by
    intro o ho
    have hc := List.all_eq_true.1 h o ho
    cases o with
    | cells e cs row s =>
      simp only [calmO, Bool.or_eq_true, Bool.not_eq_true'] at hc
      simp only [sealO]
      rcases hc with hc | hc
      · rw [hc]; rfl
      · rw [hc, Bool.or_false]
    | _ => rfl
  conv => rhs; rw [← List.map_id H]
  exact List.map_congr_left this
theorem hasE_s (e : Nat) (v : Value) : hasE e (.s v) = false := by simp [hasE]
theorem calm_s (H : List HO) (v : Value) : calm H (.s v) = true := by
  unfold calm
  refine List.all_eq_true.2 fun o _ => ?_
  cases o <;> simp [calmO, hasE_s]
theorem prep_call {c : Call} {gd : Option (Nat × Bool)} : prepP C { dst, op := .call c, type := ty, pos, after, guard := gd } g H = some (g, H) := rfl
/-- A closed call. -/
theorem s_call {f : FuncId} {args : Array Operand} {ats : Array TypeId} {cargs : List PV} {q v : PV} {new : List HO} (hinl : C.inl f = false) (hc : mapO (close H 6) (args.toList.map (opnd C g)) = some cargs) (hr : Run C f cargs q) (hrec : recv C H.length q = some (v, new)) (hcalm : calm H q = true)
    (h : WPo C d ops l (setD g dst v) (H ++ new) K) : WPo C d ops ({ dst, op := .call { callee := .value (.func f), args, argTypes := ats }, type := ty, pos, after, guard := none } :: l) g H K := by
  rw [wpo_cons]
  have : opStep C (lim C) d ops { dst, op := .call { callee := .value (.func f), args, argTypes := ats }, type := ty, pos, after, guard := none } g H = some (setD g dst v, H ++ new) := by
    unfold opStep
    have hr' : pcall C (lim C) f cargs = some q := hr
    simp only [wantedP, quiet, Bool.true_and]
    cases d with
    | false =>
      simp only [Bool.false_eq_true, if_false, qop, prep_call, mop, mcall, callV, opnd, hinl, List.nil_append, List.append_nil, hc, hr', hrec, seal_calm hcalm]
    | true =>
      simp only [if_true, dop, qcallV, opnd, hinl, Bool.false_eq_true, if_false, List.nil_append, List.append_nil, hc, hr', hcalm, hrec]
  rw [this, onto_some]
  exact h
theorem s_store {t : TypeId} {x y : Operand} (hp : prepP C { dst, op := .store t x y, type := ty, pos, after, guard := none } g H = some (g, H)) (h : ∃ H', storeP C H t (opnd C g x) (opnd C g y) = some H' ∧ WPo C d ops l (setD g dst undefP) H' K) :
    WPo C d ops ({ dst, op := .store t x y, type := ty, pos, after, guard := none } :: l) g H K := by
  obtain ⟨H', h1, h2⟩ := h
  rw [wpo_cons]
  have : opStep C (lim C) d ops { dst, op := .store t x y, type := ty, pos, after, guard := none } g H = some (setD g dst undefP, H') := by
    unfold opStep
    simp only [wantedP, quiet, Bool.false_and, Bool.false_eq_true, if_false, qop, hp, mop, h1, Option.map_some]
  rw [this, onto_some]
  exact h2
theorem s_len {x : Operand} {t : TypeId} {n : Int} (ht : (elemP C t).isSome = true) (hn : (match opnd C g x with | .s (.slice none 0 0) => some 0 | .lst _ n _ _ => some (n : Int) | .row _ _ n => some (n : Int) | _ => none) = some n) (h : WPo C d ops l (setD g dst (i64P n)) H K) :
    WPo C d ops ({ dst, op := .call { callee := .builtin .len, args := #[x], argTypes := #[t] }, type := ty, pos, after, guard := none } :: l) g H K := by
  rw [wpo_cons]
  have hq : qop C { dst, op := .call { callee := .builtin .len, args := #[x], argTypes := #[t] }, type := ty, pos, after, guard := none } g H = some (i64P n, []) := by
    unfold qop
    simp only [List.getElem?_toArray, List.getElem?_cons_zero, ht, if_true]
    split at hn <;> first | (cases hn; done) | (cases hn; rename_i he; rw [he]; rfl)
  have : opStep C (lim C) d ops { dst, op := .call { callee := .builtin .len, args := #[x], argTypes := #[t] }, type := ty, pos, after, guard := none } g H = some (setD g dst (i64P n), H) := by
    unfold opStep
    simp only [wantedP, quiet, Bool.true_and]
    cases d with
    | false => simp only [Bool.false_eq_true, if_false, hq, List.append_nil]
    | true => simp only [if_true, dop, hq, List.append_nil]
  rw [this, onto_some]
  exact h

theorem last_get (H : List HO) (o : HO) : (H ++ [o])[H.length]? = some o := by simp
theorem last_set (H : List HO) (o o' : HO) : (H ++ [o]).set H.length o' = H ++ [o'] := by simp
/-- What was laid last is written whole. -/
theorem store_new {e t n : Nat} {z cs : List PV} {v : PV} (hs : szOf C t = some n) (hv : pcells v = cs) (hn : cs.length = n) (h0 : 0 < n) (h1 : cs.all isCell = true) (hz : z.length = n) :
    storeP C (H ++ [.cells e z none false]) t (.ptr H.length 0) v = some (H ++ [.cells e cs none false]) := by
  unfold storeP
  simp only [last_get, hv, hs, hn, h0, h1, hz, Nat.zero_add, Nat.le_refl, and_self, if_true]
  rw [last_set]
  congr 3
  unfold splice
  simp [hn, hz]
theorem load_new {e t : Nat} {cs : List PV} {row : Option Nat} {sl : Bool} (off : Nat) : loadP C (H ++ [.cells e cs row sl]) t (.ptr H.length off) = loadC C t (cs.drop off) := by
  unfold loadP
  simp only [last_get]
end
end Go.PI

end
section
/- The pure interpreter and its simulation, part 31. -/
set_option linter.unusedSimpArgs false
set_option linter.unusedVariables false
namespace Go.PI
/-- What a handle stands for: a variable, a slice that is nil or a row. -/
inductive Hd (H : List HO) : PV → HO → Option Nat → Prop where
  | var {r e : Nat} {cs : List PV} {s : Bool} : H[r]? = some (.cells e cs none s) → Hd H (.ptr r 0) (.cells e cs none s) (some r)
  | map {r : Nat} {es : List (Int × PV)} : H[r]? = some (.map es) → Hd H (.map r) (.map es) (some r)
  | lp {r : Nat} {st : LoopState} {p : Option Code} {g : List PV} {ps : List Tmp} {a b : Code} : H[r]? = some (.loop st p g ps a b) → Hd H (.yld r) (.loop st p g ps a b) (some r)
  | nil {e sz : Nat} {s : Bool} : Hd H nilS (.cells e [] (some sz) s) none
  | row {r n e sz : Nat} {cs : List PV} {s : Bool} : H[r]? = some (.cells e cs (some sz) s) → cs.length = n * sz → Hd H (.row r 0 n) (.cells e cs (some sz) s) (some r)
/-- Objects of a heap, apart from each other. -/
def Own (H : List HO) (L : List (PV × HO)) : Prop := ∃ ix : List (Option Nat), ix.length = L.length ∧ (∀ (k : Nat) (p : PV) (o : HO) (i : Option Nat), L[k]? = some (p, o) → ix[k]? = some i → Hd H p o i) ∧ ∀ (k k' r : Nat), ix[k]? = some (some r) → ix[k']? = some (some r) → k = k'
theorem Hd.mono {H H' : List HO} {p : PV} {o : HO} {i : Option Nat} (h : Hd H p o i) (hk : ∀ r, i = some r → H'[r]? = H[r]?) : Hd H' p o i := by
  cases h with
  | var h => exact .var (by rw [hk _ rfl]; exact h)
  | map h => exact .map (by rw [hk _ rfl]; exact h)
  | lp h => exact .lp (by rw [hk _ rfl]; exact h)
  | nil => exact .nil
  | row h h2 => exact .row (by rw [hk _ rfl]; exact h) h2
theorem Hd.lt {H : List HO} {p : PV} {o : HO} {r : Nat} (h : Hd H p o (some r)) : r < H.length := by
  cases h with
  | var h => exact (List.getElem?_eq_some_iff.1 h).1
  | map h => exact (List.getElem?_eq_some_iff.1 h).1
  | lp h => exact (List.getElem?_eq_some_iff.1 h).1
  | row h h2 => exact (List.getElem?_eq_some_iff.1 h).1
section
variable {H : List HO} {L : List (PV × HO)}
theorem own_nil (H : List HO) : Own H [] := ⟨[], rfl, fun k p o i h => by simp at h, fun k k' r h => by simp at h⟩
theorem Own.cons {H' : List HO} {p : PV} {o : HO} {i : Option Nat} (h : Own H L) (hg : ∀ r, r < H.length → H'[r]? = H[r]?) (hd : Hd H' p o i) (hi : ∀ r, i = some r → H.length ≤ r) : Own H' ((p, o) :: L) := by
  obtain ⟨ix, h1, h2, h3⟩ := h
  have old : ∀ (k : Nat) r, ix[k]? = some (some r) → r < H.length := by
    intro k r hk
    have hl : k < L.length := by rw [← h1]; exact (List.getElem?_eq_some_iff.1 hk).1
    exact (h2 k (L[k]).1 (L[k]).2 (some r) (by rw [List.getElem?_eq_getElem hl]) hk).lt
  refine ⟨i :: ix, by simp [h1], ?_, ?_⟩
  · intro k q o' j hk hj
    cases k with
    | zero => simp at hk hj; obtain ⟨rfl, rfl⟩ := hk; subst hj; exact hd
    | succ k => 
      simp at hk hj
      refine (h2 k q o' j hk hj).mono fun r hr => hg r ?_
      subst hr
      exact old k r hj
  · intro k k' r hk hk'
    cases k with
    | zero =>
      cases k' with
      | zero => rfl
      | succ k' =>
        simp at hk hk'
        have := old k' r hk'
        have := hi r hk
        omega
    | succ k =>
      cases k' with
      | zero =>
        simp at hk hk'
        have := old k r hk
        have := hi r hk'
        omega
      | succ k' => simp at hk hk'; rw [h3 k k' r hk hk']
theorem grow_get (new : List HO) (r : Nat) (h : r < H.length) : (H ++ new)[r]? = H[r]? := List.getElem?_append_left h
theorem Own.var (h : Own H L) (e : Nat) (cs : List PV) (s : Bool) : Own (H ++ [.cells e cs none s]) ((.ptr H.length 0, .cells e cs none s) :: L) := h.cons (grow_get _) (.var (last_get H _)) (fun r hr => by cases hr; exact Nat.le_refl _)
theorem Own.row (h : Own H L) {n e sz : Nat} {cs : List PV} {s : Bool} (hl : cs.length = n * sz) : Own (H ++ [.cells e cs (some sz) s]) ((.row H.length 0 n, .cells e cs (some sz) s) :: L) := h.cons (grow_get _) (.row (last_get H _) hl) (fun r hr => by cases hr; exact Nat.le_refl _)
theorem Own.nilS (h : Own H L) (e sz : Nat) : Own H ((PI.nilS, .cells e [] (some sz) false) :: L) := h.cons (fun _ _ => rfl) .nil (fun r hr => by cases hr)
theorem Own.grow (h : Own H L) (new : List HO) : Own (H ++ new) L := by
  obtain ⟨ix, h1, h2, h3⟩ := h
  refine ⟨ix, h1, fun k p o i hk hi => (h2 k p o i hk hi).mono fun r hr => grow_get _ r ?_, h3⟩
  subst hr
  exact (h2 k p o _ hk hi).lt
theorem Own.hd (h : Own H L) (k : Nat) {p : PV} {o : HO} (hk : L[k]? = some (p, o)) : ∃ i, Hd H p o i := by
  obtain ⟨ix, h1, h2, h3⟩ := h
  have hl : k < ix.length := by rw [h1]; exact (List.getElem?_eq_some_iff.1 hk).1
  exact ⟨ix[k], h2 k p o _ hk (by rw [List.getElem?_eq_getElem hl])⟩
theorem Own.get (h : Own H L) (k : Nat) {r : Nat} {o : HO} (hk : L[k]? = some (.ptr r 0, o)) : H[r]? = some o := by
  obtain ⟨i, h⟩ := h.hd k hk
  cases h with
  | var h => exact h
theorem Own.getRow (h : Own H L) (k : Nat) {r n : Nat} {o : HO} (hk : L[k]? = some (.row r 0 n, o)) : H[r]? = some o := by
  obtain ⟨i, h⟩ := h.hd k hk
  cases h with
  | row h _ => exact h
/-- What stands at a place is another object now. -/
theorem Own.put (h : Own H L) (k : Nat) {p p' : PV} {o o' : HO} {r : Nat} (hk : L[k]? = some (p, o)) (hp : Hd H p o (some r)) (hu : ∀ i, Hd H p o i → i = some r) (hd : Hd (H.set r o') p' o' (some r)) : Own (H.set r o') (L.set k (p', o')) := by
  obtain ⟨ix, h1, h2, h3⟩ := h
  have hl : k < ix.length := by rw [h1]; exact (List.getElem?_eq_some_iff.1 hk).1
  have hr : ix[k]? = some (some r) := by
    have := h2 k p o ix[k] hk (by rw [List.getElem?_eq_getElem hl])
    rw [List.getElem?_eq_getElem hl, hu _ this]
  refine ⟨ix, by simp [h1], fun k' q o2 i hk' hi => ?_, h3⟩
  rw [List.getElem?_set] at hk'
  split at hk'
  · rename_i he
    subst he
    split at hk'
    · cases hk'
      rw [hr] at hi
      cases hi
      exact hd
    · cases hk'
  · rename_i hne
    refine (h2 k' q o2 i hk' hi).mono fun r' hr' => ?_
    subst hr'
    refine List.getElem?_set_ne fun he => hne ?_
    subst he
    exact h3 k k' _ hr hi
theorem set_get {r : Nat} {o o' : HO} (h : H[r]? = some o) : (H.set r o')[r]? = some o' := by
  have := (List.getElem?_eq_some_iff.1 h).1
  simp [this]
theorem Own.putVar (h : Own H L) (k : Nat) {r e : Nat} {cs : List PV} {s : Bool} (cs' : List PV) (s' : Bool) (hk : L[k]? = some (.ptr r 0, .cells e cs none s)) : Own (H.set r (.cells e cs' none s')) (L.set k (.ptr r 0, .cells e cs' none s')) :=
  h.put k hk (.var (h.get k hk)) (fun i hi => by cases hi; rfl) (.var (set_get (h.get k hk)))
theorem Own.putRow (h : Own H L) (k : Nat) {r n e sz : Nat} {cs : List PV} {s s' : Bool} {cs' : List PV} (hk : L[k]? = some (.row r 0 n, .cells e cs (some sz) s)) (hl : cs'.length = cs.length) : Own (H.set r (.cells e cs' (some sz) s')) (L.set k (.row r 0 n, .cells e cs' (some sz) s')) := by
  obtain ⟨i, hd⟩ := h.hd k hk
  cases hd with
  | row h1 h2 => exact h.put k hk (.row h1 h2) (fun i hi => by cases hi; rfl) (.row (set_get h1) (by rw [hl, h2]))
theorem Own.drop (h : Own H L) (k : Nat) : Own H (L.eraseIdx k) := by
  obtain ⟨ix, h1, h2, h3⟩ := h
  have at_ : ∀ {α : Type} (l : List α) (j : Nat), (l.eraseIdx k)[j]? = l[if j < k then j else j + 1]? := by
    intro α l j
    rw [List.getElem?_eraseIdx]
    split <;> rfl
  refine ⟨ix.eraseIdx k, by simp only [List.length_eraseIdx, h1], fun j p o i hj hi => ?_, fun j j' r hj hj' => ?_⟩
  · rw [at_] at hj hi
    exact h2 _ p o i hj hi
  · rw [at_] at hj hj'
    have := h3 _ _ r hj hj'
    split at this <;> split at this <;> omega
/-- Some of the objects. -/
theorem Own.sub (h : Own H L) (ks : List Nat) (hn : ks.Nodup) {L' : List (PV × HO)} (hL : L'.map some = ks.map fun k => L[k]?) : Own H L' := by
  obtain ⟨ix, h1, h2, h3⟩ := h
  have hlen : L'.length = ks.length := by have := congrArg List.length hL; simpa using this
  have hat : ∀ (j : Nat) (p : PV × HO), L'[j]? = some p → ∃ k : Nat, ks[j]? = some k ∧ L[k]? = some p := by
    intro j p hj
    have h4 := congrArg (·[j]?) hL
    simp only [List.getElem?_map, hj, Option.map_some] at h4
    cases hk : ks[j]? with
    | none => rw [hk] at h4; cases h4
    | some k => rw [hk] at h4; simp at h4; exact ⟨k, rfl, h4.symm⟩
  refine ⟨ks.map fun k => (ix[k]?).getD none, by simp [hlen], fun j p o i hj hi => ?_, fun j j' r hj hj' => ?_⟩
  · obtain ⟨k, hk, hp⟩ := hat j (p, o) hj
    rw [List.getElem?_map, hk] at hi
    simp at hi
    have hl : k < ix.length := by rw [h1]; exact (List.getElem?_eq_some_iff.1 hp).1
    refine h2 k p o i hp ?_
    rw [List.getElem?_eq_getElem hl] at hi ⊢
    simpa using hi
  · rw [List.getElem?_map] at hj hj'
    obtain ⟨k, hk, e1⟩ := Option.map_eq_some_iff.1 hj
    obtain ⟨k', hk', e2⟩ := Option.map_eq_some_iff.1 hj'
    have some_of : ∀ {a : Option (Option Nat)}, a.getD none = some r → a = some (some r) := by
      intro a ha; cases a with
      | none => cases ha
      | some b => exact congrArg some ha
    have hkk := h3 k k' r (some_of e1) (some_of e2)
    subst hkk
    have l1 := (List.getElem?_eq_some_iff.1 hk)
    have l2 := (List.getElem?_eq_some_iff.1 hk')
    obtain ⟨a1, b1⟩ := l1
    obtain ⟨a2, b2⟩ := l2
    exact (List.getElem_inj hn).1 (b1.trans b2.symm)
theorem Own.shutAll (h : Own H L) (q : PV) : Own (sealH H q) (L.map fun x => (x.1, sealO q x.2)) := by
  obtain ⟨ix, h1, h2, h3⟩ := h
  refine ⟨ix, by simp [h1], fun k p o i hk hi => ?_, h3⟩
  rw [List.getElem?_map] at hk
  obtain ⟨⟨p', o'⟩, hk1, hk2⟩ := Option.map_eq_some_iff.1 hk
  cases hk2
  have := h2 k p' o' i hk1 hi
  have hm : ∀ (r : Nat) (o : HO), H[r]? = some o → (sealH H q)[r]? = some (sealO q o) := fun r o hr => by simp [sealH, hr]
  show Hd (sealH H q) p' (sealO q o') i
  cases this with
  | var h => exact .var (hm _ _ h)
  | map h => exact .map (hm _ _ h)
  | lp h => exact .lp (hm _ _ h)
  | nil => exact .nil
  | row h hl => exact .row (hm _ _ h) hl
end
end Go.PI

end
section
/- The pure interpreter and its simulation, part 32. -/
set_option linter.unusedSimpArgs false
set_option linter.unusedVariables false
namespace Go.PI
theorem nb1 {b : Bool} (h : (!b) = true) : b = false := by cases b <;> simp_all
theorem nb0 {b : Bool} (h : (!b) = false) : b = true := by cases b <;> simp_all
theorem wrap_id {k : Int} (h1 : -9223372036854775808 ≤ k) (h2 : k ≤ 9223372036854775807) : IntKind.i64.wrap k = k := by
  simp only [IntKind.wrap, IntKind.bits, IntKind.signed, IntKind.max, IntKind.min] at *
  simp
  omega
section
variable {C : Cfg} {g : List PV} {H : List HO} {Q : Ex → List PV → List HO → Prop} {L : List (PV × HO)}
theorem w_seq {a b : Code} (h : WP C a g H fun x g' H' => thenN x (WP C b g' H' Q) (Q x g' H')) : WP C (.seq a b) g H Q := (pi_seq a b).2 h
theorem w_block {id : Nat} {b : Code} (h : WP C b g H fun x g' H' => Q (unblock id x) g' H') : WP C (.block id b) g H Q := (pi_block id b).2 h
theorem w_reg {id : Nat} {ops : Array Oper} {d : Bool} (h : WPo C d ops ops.toList g H fun g' H' => Q .normal g' H') : WP C (.region id ops d) g H Q := (pi_region id ops d).2 h
theorem w_if {o : Operand} {a b : Code} (v : Bool) (hv : opnd C g o = boolP v) (h1 : v = true → WP C a g H Q) (h2 : v = false → WP C b g H Q) : WP C (.cond o a b) g H Q := by
  rw [pi_cond, hv]
  exact (cnd_some v _ _).2 ⟨h1, h2⟩
theorem w_if1 {o : Operand} {a b : Code} {v : Bool} (hv : opnd C g o = boolP v) (h : v = true) (h1 : WP C a g H Q) : WP C (.cond o a b) g H Q := w_if v hv (fun _ => h1) (fun h2 => by rw [h] at h2; cases h2)
theorem w_if0 {o : Operand} {a b : Code} {v : Bool} (hv : opnd C g o = boolP v) (h : v = false) (h1 : WP C b g H Q) : WP C (.cond o a b) g H Q := w_if v hv (fun h2 => by rw [h] at h2; cases h2) (fun _ => h1)
theorem un_n {X Y : Prop} (h : X) : thenN .normal X Y := h
theorem un_e {X Y : Prop} {id : Nat} (h : Y) : thenN (.exit id) X Y := h
theorem un_g {X Y : Prop} {id : Nat} (h : Y) : thenN (.goto id) X Y := h
theorem un_r {X Y : Prop} (h : Y) : thenN .ret X Y := h
theorem w_skip (h : Q .normal g H) : WP C .skip g H Q := pi_skip.2 h
theorem w_exit {id : Nat} (h : Q (.exit id) g H) : WP C (.exit id) g H Q := (pi_exit id).2 h
theorem w_ret (h : Q .ret g H) : WP C .ret g H Q := pi_ret.2 h
/-- A loop: what holds at its head, with a number that falls. -/
theorem w_loop {b : Code} (I : Nat → List PV → List HO → Prop) {n : Nat} (h0 : I n g H) (hstep : ∀ n g H, I n g H → WP C b g H fun x g' H' => thenN x (∃ m, m < n ∧ I m g' H') (Q x g' H')) : WP C (.loop b) g H Q := by
  refine pi_loop (fun i g H => ∃ m, m + i ≤ n ∧ I m g H) (n + 1) ⟨n, by omega, h0⟩ ?_
  rintro i g H hi ⟨m, hm, hI⟩
  refine pi_mono (hstep m g H hI) fun x g' H' hx => ?_
  cases x with
  | normal =>
    obtain ⟨m', h1, h2⟩ := hx
    exact ⟨by omega, m', by omega, h2⟩
  | _ => exact hx
variable {d : Bool} {ops : Array Oper} {K : List PV → List HO → Prop} {l : List Oper} {ty : TypeId} {pos : String} {after : Array Edge} {dst : Option Tmp}
theorem w_nil (h : K g H) : WPo C d ops [] g H K := wpo_nil.2 h
theorem w_mv {x : Operand} (v : PV) (hv : opnd C g x = v) (k : WPo C d ops l (setD g dst v) H K) : WPo C d ops ({ dst, op := .move x, type := ty, pos, after, guard := none } :: l) g H K := s_move.2 (by rw [hv]; exact k)
theorem w_as {x : Operand} (v : PV) (hv : opnd C g x = v) (k : WPo C d ops l (setD g dst v) H K) : WPo C d ops ({ dst, op := .assign x, type := ty, pos, after, guard := none } :: l) g H K := s_assign.2 (by rw [hv]; exact k)
theorem w_bin {op : BinOp} {xt yt : TypeId} {x y : Operand} (v : PV) (h : binP C op xt (opnd C g x) (opnd C g y) = some v) (k : WPo C d ops l (setD g dst v) H K) :
    WPo C d ops ({ dst, op := .binOp op xt x y yt, type := ty, pos, after, guard := none } :: l) g H K := s_bin ⟨v, h, k⟩
theorem w_un {op : UnOp} {xt : TypeId} {x : Operand} (v : PV) (h : unP op (opnd C g x) = some v) (k : WPo C d ops l (setD g dst v) H K) :
    WPo C d ops ({ dst, op := .unOp op xt x, type := ty, pos, after, guard := none } :: l) g H K := s_un ⟨v, h, k⟩
theorem w_ld {t : TypeId} {x : Operand} (v : PV) (h : loadP C H t (opnd C g x) = some v) (k : WPo C d ops l (setD g dst v) H K) :
    WPo C d ops ({ dst, op := .load t x, type := ty, pos, after, guard := none } :: l) g H K := s_load ⟨v, h, k⟩
theorem w_fa {t : TypeId} {x : Operand} {f : Nat} (v : PV) (h : fieldAddrP C t (opnd C g x) f = some v) (k : WPo C d ops l (setD g dst v) H K) :
    WPo C d ops ({ dst, op := .fieldAddr t x f, type := ty, pos, after, guard := none } :: l) g H K := s_fieldAddr ⟨v, h, k⟩
theorem w_fv {t : TypeId} {x : Operand} {f : Nat} (v : PV) (h : fieldV C t (opnd C g x) f = some v) (k : WPo C d ops l (setD g dst v) H K) :
    WPo C d ops ({ dst, op := .field t x f, type := ty, pos, after, guard := none } :: l) g H K := s_field ⟨v, h, k⟩
theorem w_ia {t : TypeId} {x i : Operand} (v : PV) (h : indexAddrP C H t (opnd C g x) (opnd C g i) = some v) (k : WPo C d ops l (setD g dst v) H K) :
    WPo C d ops ({ dst, op := .indexAddr t x i, type := ty, pos, after, guard := none } :: l) g H K := s_indexAddr ⟨v, h, k⟩
theorem w_cv {s t : TypeId} {x : Operand} (v : PV) (h : convP C H s t (opnd C g x) = some v) (k : WPo C d ops l (setD g dst v) H K) :
    WPo C d ops ({ dst, op := .convert s t x, type := ty, pos, after, guard := none } :: l) g H K := s_convert ⟨v, h, k⟩
theorem w_sl {t : TypeId} {x : Operand} {lo hi mx : Option Operand} (v : PV) (h : sliceP C H t (opnd C g x) (lo.map (opnd C g)) (hi.map (opnd C g)) (mx.map (opnd C g)) = some v) (k : WPo C d ops l (setD g dst v) H K) :
    WPo C d ops ({ dst, op := .slice t x lo hi mx, type := ty, pos, after, guard := none } :: l) g H K := s_slice ⟨v, h, k⟩
theorem w_bd {t : TypeId} {parts : Array (Nat × Operand)} (v : PV) (h : buildP C t (parts.toList.map fun (i, x) => (i, opnd C g x)) = some v) (k : WPo C d ops l (setD g dst v) H K) :
    WPo C d ops ({ dst, op := .build t parts, type := ty, pos, after, guard := none } :: l) g H K := s_build ⟨v, h, k⟩
theorem w_xt {x : Operand} {i : Nat} (vs : List PV) (v : PV) (hx : opnd C g x = .tup vs) (hv : vs[i]? = some v) (k : WPo C d ops l (setD g dst v) H K) :
    WPo C d ops ({ dst, op := .extract x i, type := ty, pos, after, guard := none } :: l) g H K :=
  s_one (fun c h => by cases h) rfl (p := some v) (by simp only [qop, hx, hv]) ⟨v, rfl, k⟩
theorem w_mf {f : FuncId} {first caps : Array Operand} (v : PV) (h : PV.fn f (first.toList.map (opnd C g)) (caps.toList.map (opnd C g)) = v) (k : WPo C d ops l (setD g dst v) H K) :
    WPo C d ops ({ dst, op := .makeFunc (.func f) first caps, type := ty, pos, after, guard := none } :: l) g H K :=
  s_one (fun c h => by cases h) rfl (p := some v) (by simp only [qop, h]) ⟨v, rfl, k⟩
theorem w_nc {x : Operand} (v : PV) {r off : Nat} (hx : opnd C g x = .ptr r off) (hv : v = .ptr r off) (k : WPo C d ops l (setD g dst v) H K) :
    WPo C d ops ({ dst, op := .nilCheck x, type := ty, pos, after, guard := none } :: l) g H K :=
  s_one (fun c h => by cases h) rfl (p := some v) (by simp only [qop, hx, hv]) ⟨v, rfl, k⟩
theorem w_pk1 {c x y : Operand} {b : Bool} (v : PV) (hb : opnd C g c = boolP b) (h : b = true) (hv : opnd C g x = v) (k : WPo C d ops l (setD g dst v) H K) : WPo C d ops ({ dst, op := .pick c x y, type := ty, pos, after, guard := none } :: l) g H K := by
  refine (s_pick (b := b) hb).2 ?_
  rw [h, if_pos rfl, hv]
  exact k
theorem w_pk0 {c x y : Operand} {b : Bool} (v : PV) (hb : opnd C g c = boolP b) (h : b = false) (hv : opnd C g y = v) (k : WPo C d ops l (setD g dst v) H K) : WPo C d ops ({ dst, op := .pick c x y, type := ty, pos, after, guard := none } :: l) g H K := by
  refine (s_pick (b := b) hb).2 ?_
  rw [h, if_neg (by simp), hv]
  exact k
theorem w_gd {op : Op} {j : Nat} {w b : Bool} {dd : Tmp} (hd : (ops[j]?).bind (·.dst) = some dd) (hb : g.getD dd undefP = boolP b) (h : b = w)
    (k : WPo C d ops ({ dst, op, type := ty, pos, after, guard := none } :: l) g H K) : WPo C d ops ({ dst, op, type := ty, pos, after, guard := some (j, w) } :: l) g H K :=
  s_guard hd hb (fun _ => k) (fun h' => absurd h h')
theorem w_gn {op : Op} {j : Nat} {w b : Bool} {dd : Tmp} (hd : (ops[j]?).bind (·.dst) = some dd) (hb : g.getD dd undefP = boolP b) (h : b = !w)
    (k : WPo C d ops l (setD g dst undefP) H K) : WPo C d ops ({ dst, op, type := ty, pos, after, guard := some (j, w) } :: l) g H K :=
  s_guard hd hb (fun h' => by rw [h'] at h; cases w <;> cases h) (fun _ => k)
/-- A guard that follows another one that did not hold. -/
theorem w_gu {op : Op} {j : Nat} {w : Bool} {dd : Tmp} (hd : (ops[j]?).bind (·.dst) = some dd) (hb : g.getD dd undefP = undefP)
    (k : WPo C d ops l (setD g dst undefP) H K) : WPo C d ops ({ dst, op, type := ty, pos, after, guard := some (j, w) } :: l) g H K := by
  rw [wpo_cons]
  have : opStep C (lim C) d ops { dst, op, type := ty, pos, after, guard := some (j, w) } g H = some (setD g dst undefP, H) := by
    unfold opStep
    have hw : wantedP ops { dst, op, type := ty, pos, after, guard := some (j, w) } g = some false := by
      unfold wantedP
      simp only [hd, hb]
      rfl
    rw [hw]
  rw [this, onto_some]
  exact k

/-! ### The heap -/
theorem w_alloc (ho : Own H L) {e : TypeId} (z : List PV) (hz : zeroP C e = some z) (k : ∀ H1 r, Own H1 ((.ptr r 0, .cells e z none false) :: L) → WPo C d ops l (setD g dst (.ptr r 0)) H1 K) :
    WPo C d ops ({ dst, op := .alloc e, type := ty, pos, after, guard := none } :: l) g H K := s_alloc hz (k _ _ (ho.var _ _ _))
theorem w_box (ho : Own H L) {e : TypeId} {x : Operand} (z : List PV) (hz : pcells (opnd C g x) = z) (hc : z.all isCell = true) (k : ∀ H1 r, Own H1 ((.ptr r 0, .cells e z none false) :: L) → WPo C d ops l (setD g dst (.ptr r 0)) H1 K) :
    WPo C d ops ({ dst, op := .box e x, type := ty, pos, after, guard := none } :: l) g H K := by
  rw [s_q (fun c h => by cases h) rfl (v := .ptr H.length 0) (new := [.cells e z none false]) (by simp only [qop, hz, hc, if_true])]
  exact k _ _ (ho.var _ _ _)
/-- A variable is read. -/
theorem ld_var (ho : Own H L) (k : Nat) {r off e : Nat} {cs : List PV} {s : Bool} {t : TypeId} {v : PV} (hk : L[k]? = some (.ptr r 0, .cells e cs none s)) (h : loadC C t (cs.drop off) = some v) : loadP C H t (.ptr r off) = some v := by
  unfold loadP
  simp only [ho.get k hk, h]
theorem ld_row (ho : Own H L) (k : Nat) {r n off e sz : Nat} {cs : List PV} {s : Bool} {t : TypeId} {v : PV} (hk : L[k]? = some (.row r 0 n, .cells e cs (some sz) s)) (h : loadC C t (cs.drop off) = some v) : loadP C H t (.ptr r off) = some v := by
  unfold loadP
  simp only [ho.getRow k hk, h]
theorem splice_all (cs new : List PV) (h : new.length = cs.length) : splice cs 0 new = new := by
  unfold splice
  simp [h]
theorem prep_var (ho : Own H L) (i : Nat) {t : TypeId} {x y : Operand} {r off e : Nat} {cs : List PV} {s : Bool} (hk : L[i]? = some (.ptr r 0, .cells e cs none s)) (hx : opnd C g x = .ptr r off) : prepP C { dst, op := .store t x y, type := ty, pos, after, guard := none } g H = some (g, H) := by
  unfold prepP
  cases y with
  | tmp k => simp only [hx, ho.get i hk]
  | _ => rfl
theorem prep_id {t : TypeId} {x y : Operand} (hy : holdsRow (opnd C g y) = false) : prepP C { dst, op := .store t x y, type := ty, pos, after, guard := none } g H = some (g, H) := by
  unfold prepP
  cases y with
  | tmp k =>
    have hy : holdsRow (g.getD k undefP) = false := hy
    have hf : frzT k g H = some (g, H) := by unfold frzT; rw [hy]; rfl
    split
    · rename_i he
      cases he
      split
      · split
        · exact hf
        · rfl
      · rfl
    · rename_i he; cases he
    · rename_i h1 _; exact (h1 _ _ _ rfl).elim
  | _ => rfl
/-- A variable is written. -/
theorem w_stv (ho : Own H L) (i : Nat) {t : TypeId} {x y : Operand} {r off e n : Nat} {cs vs : List PV} (v : PV) (cs' : List PV) (L' : List (PV × HO)) (hk : L[i]? = some (.ptr r 0, .cells e cs none false)) (hx : opnd C g x = .ptr r off) (hy : opnd C g y = v)
    (hs : szOf C t = some n) (hv : pcells v = vs) (hn : vs.length = n) (h0 : 0 < n) (h1 : vs.all isCell = true) (h2 : off + n ≤ cs.length) (hc : splice cs off vs = cs') (hL : L.set i (.ptr r 0, .cells e cs' none false) = L')
    (k : ∀ H1, Own H1 L' → WPo C d ops l (setD g dst undefP) H1 K) : WPo C d ops ({ dst, op := .store t x y, type := ty, pos, after, guard := none } :: l) g H K := by
  refine s_store (prep_var ho i hk hx) ⟨_, ?_, k (H.set r (.cells e cs' none false)) (hL ▸ ho.putVar i _ _ hk)⟩
  unfold storeP
  rw [hx, hy]
  simp only [ho.get i hk, hs, hv, hn, h0, h1, h2, hc, and_self, if_true]
theorem splice_len (cs new : List PV) (off : Nat) (h : off + new.length ≤ cs.length) : (splice cs off new).length = cs.length := by
  unfold splice
  simp only [List.length_append, List.length_take, List.length_drop]
  omega
/-- A row is written. -/
theorem w_str (ho : Own H L) (i : Nat) {t : TypeId} {x y : Operand} {r off e n m sz : Nat} {cs vs : List PV} (v : PV) (cs' : List PV) (L' : List (PV × HO)) (hk : L[i]? = some (.row r 0 m, .cells e cs (some sz) false)) (hx : opnd C g x = .ptr r off) (hy : opnd C g y = v)
    (hs : szOf C t = some n) (hv : pcells v = vs) (hnr : holdsRow v = false) (hn : vs.length = n) (h0 : 0 < n) (h1 : vs.all isCell = true) (h2 : off + n ≤ cs.length) (hc : splice cs off vs = cs') (hL : L.set i (.row r 0 m, .cells e cs' (some sz) false) = L')
    (k : ∀ H1, Own H1 L' → WPo C d ops l (setD g dst undefP) H1 K) : WPo C d ops ({ dst, op := .store t x y, type := ty, pos, after, guard := none } :: l) g H K := by
  refine s_store (prep_id (by rw [hy]; exact hnr)) ⟨_, ?_, k (H.set r (.cells e cs' (some sz) false)) (hL ▸ ho.putRow i hk (by rw [← hc]; exact splice_len _ _ _ (by rw [hn]; exact h2)))⟩
  unfold storeP
  rw [hx, hy]
  simp only [ho.getRow i hk, hs, hv, hn, h0, h1, h2, hc, and_self, if_true]
/-- Its length. -/
theorem Own.len (ho : Own H L) (k : Nat) {p : PV} {e sz n : Nat} {cs : List PV} {s : Bool} (hk : L[k]? = some (p, .cells e cs (some sz) s)) (h0 : 0 < sz) (hn : cs.length = n * sz) : (p = PI.nilS ∧ n = 0) ∨ ∃ r, p = .row r 0 n ∧ H[r]? = some (.cells e cs (some sz) s) := by
  obtain ⟨i, h⟩ := ho.hd k hk
  cases h with
  | nil =>
    refine .inl ⟨rfl, ?_⟩
    simp only [List.length_nil] at hn
    rcases Nat.mul_eq_zero.1 hn.symm with h | h
    · exact h
    · omega
  | row h1 h2 =>
    rename_i r m
    have : m = n := Nat.eq_of_mul_eq_mul_right h0 (h2.symm.trans hn)
    subst this
    exact .inr ⟨r, rfl, h1⟩
theorem w_len {x : Operand} {t : TypeId} (n : Int) (p : PV) (ht : (elemP C t).isSome = true) (hn : (match p with | .s (.slice none 0 0) => some 0 | .lst _ n _ _ => some (n : Int) | .row _ _ n => some (n : Int) | _ => none) = some n) (hx : opnd C g x = p) (h : WPo C d ops l (setD g dst (i64P n)) H K) :
    WPo C d ops ({ dst, op := .call { callee := .builtin .len, args := #[x], argTypes := #[t] }, type := ty, pos, after, guard := none } :: l) g H K := by
  subst hx
  exact s_len ht hn h
/-- The length of what is closed. -/
theorem w_lenC {x : Operand} {t : TypeId} (e n : Nat) (cs : List PV) (m : Int) (ht : (elemP C t).isSome = true) (hx : opnd C g x = lstN e n cs) (hm : m = (n : Int)) (h : WPo C d ops l (setD g dst (i64P m)) H K) :
    WPo C d ops ({ dst, op := .call { callee := .builtin .len, args := #[x], argTypes := #[t] }, type := ty, pos, after, guard := none } :: l) g H K := by
  subst hm
  refine w_len n _ ht ?_ hx h
  by_cases h0 : n = 0
  · subst h0; rfl
  · simp only [lstN, h0, if_false]
/-- The length of what is its own. -/
theorem w_lenO (ho : Own H L) (i : Nat) {x : Operand} {t : TypeId} {p : PV} {e sz : Nat} {cs : List PV} {s : Bool} (n : Nat) (m : Int) (ht : (elemP C t).isSome = true) (hk : L[i]? = some (p, .cells e cs (some sz) s)) (hx : opnd C g x = p) (h0 : 0 < sz) (hn : cs.length = n * sz) (hm : m = (n : Int)) (h : WPo C d ops l (setD g dst (i64P m)) H K) :
    WPo C d ops ({ dst, op := .call { callee := .builtin .len, args := #[x], argTypes := #[t] }, type := ty, pos, after, guard := none } :: l) g H K := by
  subst hm
  refine w_len n _ ht ?_ hx h
  rcases ho.len i hk h0 hn with ⟨rfl, rfl⟩ | ⟨r, rfl, _⟩ <;> rfl
/-- A closed call whose result holds no address. -/
theorem w_cs {f : FuncId} {args : Array Operand} {ats : Array TypeId} (cargs : List PV) (v : PV) (hinl : C.inl f = false) (hc : mapO (close H 6) (args.toList.map (opnd C g)) = some cargs) (hr : Run C f cargs v) (hv : recv C H.length v = some (v, [])) (hq : ∀ H, calm H v = true)
    (k : WPo C d ops l (setD g dst v) H K) : WPo C d ops ({ dst, op := .call { callee := .value (.func f), args, argTypes := ats }, type := ty, pos, after, guard := none } :: l) g H K := by
  refine s_call hinl hc hr hv (hq H) ?_
  rw [List.append_nil]
  exact k
/-- A closed call, whatever it hands back. -/
theorem w_co {x : Operand} {f : FuncId} {first caps : List PV} {args : Array Operand} {ats : Array TypeId} {cargs : List PV} {q v : PV} {new : List HO} (hx : opnd C g x = .fn f first caps) (hinl : C.inl f = false) (hc : mapO (close H 6) (first ++ args.toList.map (opnd C g) ++ caps) = some cargs) (hr : Run C f cargs q) (hrec : recv C H.length q = some (v, new))
    (k : WPo C false ops l (setD g dst v) (sealH H q ++ new) K) : WPo C false ops ({ dst, op := .call { callee := .value x, args, argTypes := ats }, type := ty, pos, after, guard := none } :: l) g H K := by
  rw [wpo_cons]
  have : opStep C (lim C) false ops { dst, op := .call { callee := .value x, args, argTypes := ats }, type := ty, pos, after, guard := none } g H = some (setD g dst v, sealH H q ++ new) := by
    unfold opStep
    have hr' : pcall C (lim C) f cargs = some q := hr
    simp only [wantedP, Bool.and_false, Bool.false_eq_true, if_false, qop, prep_call, mop, mcall, callV, hx, hinl, hc, hr', hrec]
  rw [this, onto_some]
  exact k
/-- It hands back a slice of its own. -/
theorem w_cown (ho : Own H L) {x : Operand} {f : FuncId} {first caps : List PV} {args : Array Operand} {ats : Array TypeId} (cargs : List PV) (e n sz : Nat) (cs : List PV) (L' : List (PV × HO)) (hx : opnd C g x = .fn f first caps) (hinl : C.inl f = false) (hc : mapO (close H 6) (first ++ args.toList.map (opnd C g) ++ caps) = some cargs) (hr : Run C f cargs (.own e n cs)) (hs : szOf C e = some sz) (h0 : 0 < sz) (hl : cs.length = n * sz)
    (hL : (L.map fun x => (x.1, sealO (.own e n cs) x.2)) = L') (k : ∀ H1 r, Own H1 ((.row r 0 n, .cells e cs (some sz) false) :: L') → WPo C false ops l (setD g dst (.row r 0 n)) H1 K) :
    WPo C false ops ({ dst, op := .call { callee := .value x, args, argTypes := ats }, type := ty, pos, after, guard := none } :: l) g H K := by
  refine w_co (q := .own e n cs) (v := .row H.length 0 n) (new := [.cells e cs (some sz) false]) hx hinl hc hr (by unfold recv recv1; simp only [hs, h0, hl, and_self, if_true]) ?_
  have := (ho.shutAll (.own e n cs)).row (s := false) (e := e) hl
  have hln : (sealH H (.own e n cs)).length = H.length := by simp [sealH]
  rw [hln, hL] at this
  exact k _ _ this
/-- It hands back what is closed. -/
theorem w_ccl (ho : Own H L) {x : Operand} {f : FuncId} {first caps : List PV} {args : Array Operand} {ats : Array TypeId} (cargs : List PV) (v : PV) (L' : List (PV × HO)) (hx : opnd C g x = .fn f first caps) (hinl : C.inl f = false) (hc : mapO (close H 6) (first ++ args.toList.map (opnd C g) ++ caps) = some cargs) (hr : Run C f cargs v) (hv : recv C H.length v = some (v, []))
    (hL : (L.map fun x => (x.1, sealO v x.2)) = L') (k : ∀ H1, Own H1 L' → WPo C false ops l (setD g dst v) H1 K) :
    WPo C false ops ({ dst, op := .call { callee := .value x, args, argTypes := ats }, type := ty, pos, after, guard := none } :: l) g H K := by
  refine w_co (q := v) (v := v) (new := []) hx hinl hc hr hv ?_
  rw [List.append_nil]
  exact k _ (hL ▸ ho.shutAll v)
end
/-! ### Closing -/
section
variable {H : List HO} {L : List (PV × HO)}
theorem cl_nil (d : Nat) : mapO (close H d) [] = some [] := rfl
theorem cl_cons {d : Nat} {p q : PV} {ps qs : List PV} (h : close H d p = some q) (h' : mapO (close H d) ps = some qs) : mapO (close H d) (p :: ps) = some (q :: qs) := by
  simp only [mapO, h, h']
theorem cl_int (d : Nat) (k : IntKind) (n : Int) : close H (d + 1) (.s (.int k n)) = some (.s (.int k n)) := rfl
theorem cl_i64 (d : Nat) (n : Int) : close H (d + 1) (i64P n) = some (i64P n) := rfl
theorem cl_bool (d : Nat) (b : Bool) : close H (d + 1) (boolP b) = some (boolP b) := rfl
theorem cl_nilS (d : Nat) : close H (d + 1) nilS = some (lstN 0 0 []) := rfl
theorem cl_lst (d e n : Nat) (cs : List PV) : close H (d + 1) (lstN e n cs) = some (lstN e n cs) := by
  unfold lstN
  split
  · rfl
  · rename_i h; simp only [close, lstN, h, if_false]
theorem cl_lst' (d e n : Nat) (cs : List PV) (x : Bool) : close H (d + 1) (.lst e n cs x) = some (lstN e n cs) := rfl
theorem cl_agg {d : Nat} {cs cs' : List PV} (h : mapO (close H d) cs = some cs') : close H (d + 1) (.agg cs) = some (.agg cs') := by
  simp only [close, h, Option.map_some]
theorem cl_var (ho : Own H L) (k : Nat) {d r off e : Nat} {cs cs' : List PV} {s : Bool} (hk : L[k]? = some (.ptr r 0, .cells e cs none s)) (h : mapO (close H d) (cs.drop off) = some cs') : close H (d + 1) (.ptr r off) = some (.lptr e cs') := by
  simp only [close, ho.get k hk, h, Option.map_some]
theorem cl_fn {d : Nat} {f : FuncId} {a b a' b' : List PV} (h : mapO (close H d) a = some a') (h' : mapO (close H d) b = some b') : close H (d + 1) (.fn f a b) = some (.fn f a' b') := by
  simp only [close, h, h', Option.map_some]
/-- A slice of its own, closed. -/
theorem cl_own (ho : Own H L) (k : Nat) {p : PV} {d e sz n : Nat} {cs cs' : List PV} {s : Bool} (hk : L[k]? = some (p, .cells e cs (some sz) s)) (h0 : 0 < sz) (hn : cs.length = n * sz) (h : mapO (close H d) cs = some cs') : close H (d + 1) p = some (lstN e n cs') := by
  rcases ho.len k hk h0 hn with ⟨rfl, rfl⟩ | ⟨r, rfl, hr⟩
  · rfl
  · have : slOf H (.row r 0 n) = some (e, n, cs) := by
      unfold slOf
      simp only [hr, Nat.zero_add, List.drop_zero, Nat.zero_mul]
      rw [if_pos (by omega), List.take_of_length_le (by omega)]
    simp only [close, this, h, Option.map_some]
theorem sl_own (ho : Own H L) (k : Nat) {p : PV} {e sz n : Nat} {cs : List PV} {s : Bool} (hk : L[k]? = some (p, .cells e cs (some sz) s)) (h0 : 0 < sz) (hn : cs.length = n * sz) : ∃ e', slOf H p = some (e', n, cs) ∧ (e' = e ∨ n = 0) := by
  rcases ho.len k hk h0 hn with ⟨rfl, rfl⟩ | ⟨r, rfl, hr⟩
  · have : cs = [] := List.eq_nil_of_length_eq_zero (by omega)
    subst this
    exact ⟨0, rfl, .inr rfl⟩
  · refine ⟨e, ?_, .inl rfl⟩
    unfold slOf
    simp only [hr, Nat.zero_add, List.drop_zero, Nat.zero_mul]
    rw [if_pos (by omega), List.take_of_length_le (by omega)]
end
end Go.PI

end
section
/- The pure interpreter and its simulation, part 33. -/
set_option linter.unusedSimpArgs false
set_option linter.unusedVariables false
namespace Go.PI
/-! ### Lists, as cells -/
def nth {α : Type} [Inhabited α] (l : List α) (i : Int) : α := l.getD i.toNat default
theorem nth_nat {α : Type} [Inhabited α] (l : List α) (i : Nat) : nth l i = l.getD i default := by simp [nth]
theorem nth_get {α : Type} [Inhabited α] {l : List α} {i : Nat} (h : i < l.length) : nth l i = l[i] := by simp [nth, h]
def atF {α : Type} (f : α → List PV) (sz : Nat) (l : List α) (i : Int) (o : Nat) : List PV := ((l.flatMap f).drop (i.toNat * sz)).drop o
section
variable {α : Type} [Inhabited α] {f : α → List PV} {sz : Nat} (hf : ∀ a, (f a).length = sz)
include hf
omit [Inhabited α] in
theorem flat_len (l : List α) : (l.flatMap f).length = l.length * sz := by
  induction l with
  | nil => simp
  | cons a l ih => simp only [List.flatMap_cons, List.length_append, hf, ih, List.length_cons, Nat.succ_mul]; omega
omit [Inhabited α] in
theorem flat_len' {l : List α} {n : Nat} (hl : l.length = n) : (l.flatMap f).length = n * sz := by rw [flat_len hf, hl]
theorem flat_drop : ∀ (l : List α) (i : Nat), i < l.length → (l.flatMap f).drop (i * sz) = f (l.getD i default) ++ (l.drop (i + 1)).flatMap f
  | [], i, h => by simp at h
  | a :: l, 0, h => by simp
  | a :: l, i + 1, h => by
    have := flat_drop l i (by simpa using h)
    rw [List.flatMap_cons, Nat.succ_mul, Nat.add_comm, List.drop_append, List.drop_of_length_le (by rw [hf]; omega), List.nil_append, hf, Nat.add_sub_cancel_left, this]
    simp
theorem at_eq {l : List α} {i : Int} (h0 : 0 ≤ i) (h1 : i < l.length) {o : Nat} (ho : o ≤ sz) : atF f sz l i o = (f (nth l i)).drop o ++ (l.drop (i.toNat + 1)).flatMap f := by
  unfold atF nth
  rw [flat_drop hf l i.toNat (by omega), List.drop_append, hf, Nat.sub_eq_zero_of_le ho, List.drop_zero]
theorem at_len {l : List α} {i : Int} (h0 : 0 ≤ i) (h1 : i < l.length) {o : Nat} (ho : o ≤ sz) : sz - o ≤ (atF f sz l i o).length := by
  rw [at_eq hf h0 h1 ho, List.length_append, List.length_drop, hf]
  omega
omit [Inhabited α] in
/-- One of a list is written. -/
theorem flat_set : ∀ (l : List α) (i : Nat) (a : α), i < l.length → splice (l.flatMap f) (i * sz) (f a) = (l.set i a).flatMap f
  | [], i, a, h => by simp at h
  | b :: l, 0, a, h => by
    unfold splice
    simp only [Nat.zero_mul, List.take_zero, List.nil_append, Nat.zero_add, List.set_cons_zero, List.flatMap_cons, hf]
    rw [List.drop_append, List.drop_of_length_le (by rw [hf]; omega), hf, Nat.sub_self, List.drop_zero, List.nil_append]
  | b :: l, i + 1, a, h => by
    have := flat_set l i a (by simpa using h)
    unfold splice at this ⊢
    simp only [List.set_cons_succ, List.flatMap_cons, hf, Nat.succ_mul] at this ⊢
    rw [List.take_append, List.drop_append, List.take_of_length_le (by rw [hf]; omega), List.drop_of_length_le (by rw [hf]; omega), hf, List.nil_append, List.append_assoc,
      show i * sz + sz - sz = i * sz from by omega, show i * sz + sz + sz - sz = i * sz + sz from by omega, this]
end
section
variable {C : Cfg} {H : List HO}
theorem ld_app {t : TypeId} {a b : List PV} {v : PV} (h : loadC C t a = some v) : loadC C t (a ++ b) = some v := by
  unfold loadC at h ⊢
  cases hs : szOf C t with
  | none => rw [hs] at h; cases h
  | some n =>
    cases ha : aggO C t with
    | none => rw [hs, ha] at h; cases h
    | some w =>
      rw [hs, ha] at h
      cases w with
      | true =>
        show (if n ≤ (a ++ b).length then some (PV.agg ((a ++ b).take n)) else none) = some v
        have h : (if n ≤ a.length then some (PV.agg (a.take n)) else none) = some v := h
        split at h
        · rename_i hn
          rw [if_pos (by rw [List.length_append]; omega), List.take_append_of_le_length hn]
          exact h
        · cases h
      | false =>
        show (if n = 1 then (a ++ b).head? else none) = some v
        have h : (if n = 1 then a.head? else none) = some v := h
        split at h
        · rename_i hn
          rw [if_pos hn]
          cases a with
          | nil => cases h
          | cons x a => exact h
        · cases h
theorem ld_at {α : Type} [Inhabited α] {f : α → List PV} {sz : Nat} (hf : ∀ a, (f a).length = sz) {l : List α} {i : Int} (h0 : 0 ≤ i) (h1 : i < l.length) {o : Nat} (ho : o ≤ sz) {t : TypeId} {v : PV} (h : loadC C t ((f (nth l i)).drop o) = some v) : loadC C t (atF f sz l i o) = some v := by
  rw [at_eq hf h0 h1 ho]
  exact ld_app h
theorem ld_agg {t n : Nat} {cs vs : List PV} (hs : szOf C t = some n) (ha : aggO C t = some true) (h : cs.take n = vs) (hn : n ≤ cs.length) : loadC C t cs = some (.agg vs) := by
  unfold loadC
  simp only [hs, ha, hn, if_true, h]
theorem ld_one {t : Nat} {cs : List PV} {v : PV} (hs : szOf C t = some 1) (ha : aggO C t = some false) (h : cs.head? = some v) : loadC C t cs = some v := by
  unfold loadC
  simp only [hs, ha, if_true, h]
theorem ld_lptr {t e : Nat} {cs : List PV} {v : PV} (h : loadC C t cs = some v) : loadP C H t (.lptr e cs) = some v := h
theorem fa_ptr {s f o t n r off : Nat} (hf : fieldP C s f = some (o, t)) (hs : szOf C t = some n) (h0 : 0 < n) : fieldAddrP C s (.ptr r off) f = some (.ptr r (off + o)) := by
  unfold fieldAddrP
  simp only [hf, hs]
  rw [if_neg]
  rintro (h | h)
  · cases h; omega
  · cases h
theorem fa_lptr {s f o t n e : Nat} {cs cs' : List PV} (hf : fieldP C s f = some (o, t)) (hs : szOf C t = some n) (h0 : 0 < n) (hl : o ≤ cs.length) (hc : cs.drop o = cs') : fieldAddrP C s (.lptr e cs) f = some (.lptr e cs') := by
  unfold fieldAddrP
  simp only [hf, hs]
  rw [if_neg, if_pos hl, hc]
  rintro (h | h)
  · cases h; omega
  · cases h
theorem fa_at {α : Type} [Inhabited α] {g : α → List PV} {sz : Nat} (hg : ∀ a, (g a).length = sz) {l : List α} {i : Int} (h0 : 0 ≤ i) (h1 : i < l.length) {s f o o' t n e : Nat} (hf : fieldP C s f = some (o', t)) (hs : szOf C t = some n) (hn : 0 < n) (ho : o + o' ≤ sz) :
    fieldAddrP C s (.lptr e (atF g sz l i o)) f = some (.lptr e (atF g sz l i (o + o'))) :=
  fa_lptr hf hs hn (by have := at_len hg h0 h1 (o := o) (by omega); omega) (by unfold atF; rw [List.drop_drop])
theorem ld_rowat {α : Type} [Inhabited α] {f : α → List PV} {sz : Nat} (hf : ∀ a, (f a).length = sz) {L : List (PV × HO)} (ho : Own H L) (k : Nat) {r n e sz' : Nat} {s : Bool} {l : List α} (hk : L[k]? = some (.row r 0 n, .cells e (l.flatMap f) (some sz') s)) {i : Int} (h0 : 0 ≤ i) (h1 : i < l.length) {o : Nat} (hb : o ≤ sz) {t : TypeId} {v : PV} (h : loadC C t ((f (nth l i)).drop o) = some v) :
    loadP C H t (.ptr r (i.toNat * sz + o)) = some v := by
  refine ld_row ho k hk ?_
  rw [← List.drop_drop]
  exact ld_at hf h0 h1 hb h
theorem ix_lst {α : Type} [Inhabited α] {f : α → List PV} {t e e' sz : Nat} (hf : ∀ a, (f a).length = sz) (hel : elemP C t = some e') (hs : szOf C e' = some sz) {l : List α} {i : Int} (h0 : 0 ≤ i) (h1 : i < l.length) :
    indexAddrP C H t (lstN e l.length (l.flatMap f)) (i64P i) = some (.lptr e (atF f sz l i 0)) := by
  have hne : l.length ≠ 0 := by omega
  have hl := flat_len hf l
  unfold indexAddrP lstN
  rw [if_neg hne]
  have : ¬ i < 0 := by omega
  have h2 : i < (l.length : Int) ∧ i.toNat * sz ≤ (l.flatMap f).length := ⟨h1, by rw [hl]; exact Nat.mul_le_mul_right _ (by omega)⟩
  simp only [i64P, pint, this, if_false, hel, hs]
  rw [if_pos h2]
  rfl
theorem ix_row {L : List (PV × HO)} (ho : Own H L) (k : Nat) {r n e sz : Nat} {cs : List PV} {s : Bool} {t e' : Nat} (hk : L[k]? = some (.row r 0 n, .cells e cs (some sz) s)) (hel : elemP C t = some e') (hs : szOf C e' = some sz) {i : Int} (h0 : 0 ≤ i) (h1 : i < n) :
    indexAddrP C H t (.row r 0 n) (i64P i) = some (.ptr r (i.toNat * sz)) := by
  unfold indexAddrP
  have : ¬ i < 0 := by omega
  simp only [i64P, pint, this, if_false, hel, hs, ho.getRow k hk, h1, and_self, if_true, Nat.zero_add]
/-- What is its own and holds something is a row. -/
theorem Own.isRow {L : List (PV × HO)} (ho : Own H L) (k : Nat) {p : PV} {e sz n : Nat} {cs : List PV} {s : Bool} (hk : L[k]? = some (p, .cells e cs (some sz) s)) (h0 : 0 < sz) (hn : cs.length = n * sz) (hp : 0 < n) : ∃ r, p = .row r 0 n := by
  rcases ho.len k hk h0 hn with ⟨_, h⟩ | ⟨r, h, _⟩
  · omega
  · exact ⟨r, h⟩
/-! ### Whole numbers -/
section
variable {op : BinOp} {t : TypeId} {p q : PV} {a b : Int}
theorem b_add (hp : p = i64P a) (hq : q = i64P b) (h1 : -9223372036854775808 ≤ a + b) (h2 : a + b ≤ 9223372036854775807) : binP C .add t p q = some (i64P (a + b)) := by
  subst hp; subst hq
  show some (intP .i64 (IntKind.i64.wrap (a + b))) = _
  rw [wrap_id h1 h2]; rfl
theorem b_sub (hp : p = i64P a) (hq : q = i64P b) (h1 : -9223372036854775808 ≤ a - b) (h2 : a - b ≤ 9223372036854775807) : binP C .sub t p q = some (i64P (a - b)) := by
  subst hp; subst hq
  show some (intP .i64 (IntKind.i64.wrap (a - b))) = _
  rw [wrap_id h1 h2]; rfl
theorem b_mul (hp : p = i64P a) (hq : q = i64P b) (h1 : -9223372036854775808 ≤ a * b) (h2 : a * b ≤ 9223372036854775807) : binP C .mul t p q = some (i64P (a * b)) := by
  subst hp; subst hq
  show some (intP .i64 (IntKind.i64.wrap (a * b))) = _
  rw [wrap_id h1 h2]; rfl
theorem b_quo (hp : p = i64P a) (hq : q = i64P b) (h0 : 0 ≤ a) (hb : 0 < b) (h2 : a ≤ 9223372036854775807) : binP C .quo t p q = some (i64P (a / b)) := by
  subst hp; subst hq
  have hne : ¬ b = 0 := by omega
  show (if b = 0 then none else some (intP .i64 (IntKind.i64.wrap (a.tdiv b)))) = _
  rw [if_neg hne, Int.tdiv_eq_ediv_of_nonneg h0]
  have h3 : 0 ≤ a / b := Int.ediv_nonneg h0 (by omega)
  have h4 : a / b ≤ a := Int.ediv_le_self _ h0
  rw [wrap_id (by omega) (by omega)]; rfl
theorem b_rem (hp : p = i64P a) (hq : q = i64P b) (h0 : 0 ≤ a) (hb : 0 < b) : binP C .rem t p q = some (i64P (a % b)) := by
  subst hp; subst hq
  have hne : ¬ b = 0 := by omega
  show (if b = 0 then none else some (intP .i64 (a.tmod b))) = _
  rw [if_neg hne, Int.tmod_eq_emod_of_nonneg h0]; rfl
end
end
/-! ### Results -/
section
variable {C : Cfg} {H : List HO} {ts : List TypeId} {vs : List PV} {i : Nat}
theorem ca_nil : closeAll C H ts vs i [] = some [] := rfl
theorem ca_cons {p q : PV} {ps qs : List PV} (h : closeRes C H (ts.getD i 0) (others vs i) p = some q) (h' : closeAll C H ts vs (i + 1) ps = some qs) : closeAll C H ts vs i (p :: ps) = some (q :: qs) := by
  simp only [closeAll, h, h', Option.map_some]
variable {t : TypeId} {o : List PV}
theorem cr_int (k : IntKind) (n : Int) : closeRes C H t o (.s (.int k n)) = some (.s (.int k n)) := rfl
theorem cr_i64 (n : Int) : closeRes C H t o (i64P n) = some (i64P n) := rfl
theorem cr_bool (b : Bool) : closeRes C H t o (boolP b) = some (boolP b) := rfl
theorem cr_nil {e : Nat} (he : elemP C t = some e) : closeRes C H t o nilS = some (.own e 0 []) := by
  show (match elemP C t with | some e => some (PV.own e 0 []) | none => _) = _
  rw [he]
theorem cr_lst (e n : Nat) (cs : List PV) : closeRes C H t o (lstN e n cs) = some (lstN e n cs) := by
  have h := cl_lst (H := H) 5 e n cs
  unfold lstN at h ⊢
  split
  · rfl
  · rename_i hn
    rw [if_neg hn] at h
    exact h
theorem cr_lst' (e n : Nat) (cs : List PV) (x : Bool) : closeRes C H t o (.lst e n cs x) = some (lstN e n cs) := rfl
theorem cr_agg {cs cs' : List PV} (h : mapO (close H 5) cs = some cs') : closeRes C H t o (.agg cs) = some (.agg cs') := cl_agg h
theorem cr_fn {f : FuncId} {a b a' b' : List PV} (h : mapO (close H 5) a = some a') (h' : mapO (close H 5) b = some b') : closeRes C H t o (.fn f a b) = some (.fn f a' b') := cl_fn h h'
theorem off_i (e : Nat) (n : Int) : offOwn H e (i64P n) = true := by
  unfold offOwn
  show (true && !(hasE e (i64P n))) = true
  simp [i64P, hasE]
theorem off_b (e : Nat) (n : Bool) : offOwn H e (boolP n) = true := by
  unfold offOwn
  show (true && !(hasE e (boolP n))) = true
  simp [boolP, hasE]
theorem off_nil (e : Nat) (he : e ≠ 0) : offOwn H e nilS = true := by
  unfold offOwn
  show (true && !(hasE e (.lst 0 0 [] false))) = true
  simp [hasE, hasE.hasL]
  omega
theorem offs_nil (e : Nat) : ([] : List PV).all (offOwn H e) = true := rfl
theorem offs_cons {e : Nat} {p : PV} {ps : List PV} (h : offOwn H e p = true) (h' : ps.all (offOwn H e) = true) : (p :: ps).all (offOwn H e) = true := by simp only [List.all_cons, h, h', Bool.and_self]
/-- A slice of its own is handed back. -/
theorem cr_own {L : List (PV × HO)} (ho : Own H L) (k : Nat) {p : PV} {e sz n : Nat} {cs cs' : List PV} (hk : L[k]? = some (p, .cells e cs (some sz) false)) (h0 : 0 < sz) (hn : cs.length = n * sz) (he : elemP C t = some e) (hs : szOf C e = some sz) (hoff : o.all (offOwn H e) = true) (hh : hasE.hasL e cs' = false) (h : mapO (close H 5) cs = some cs') : closeRes C H t o p = some (.own e n cs') := by
  rcases ho.len k hk h0 hn with ⟨rfl, rfl⟩ | ⟨r, rfl, hr⟩
  · have : cs = [] := List.eq_nil_of_length_eq_zero (by omega)
    subst this
    cases h
    exact cr_nil he
  · have : slOf H (.row r 0 n) = some (e, n, cs) := by
      unfold slOf
      simp only [hr, Nat.zero_add, List.drop_zero, Nat.zero_mul]
      rw [if_pos (by omega), List.take_of_length_le (by omega)]
    unfold closeRes
    simp only [hr, this, h, hoff, hh, hs]
    simp
end
/-- A function, with its temporaries. -/
theorem run_fn {C : Cfg} {f : FuncId} {args : List PV} {q : PV} {fn : Func} {c : Code} (g : List PV) (hf : C.P.funcs[f]? = some fn) (hb : fn.body = some c) (hfi : C.fine f = true) (he : C.ext f args = none) (hg : args ++ List.replicate (fn.ntmps - args.length) undefP = g)
    (h : WP C c g [] fun x g H => (x = .normal ∨ x = .ret) ∧ ∃ vs qs, mapRes (resVar C g H) fn.results.toList = some vs ∧ closeAll C H fn.resultTypes.toList vs 0 vs = some qs ∧ tupOf qs = q) : Run C f args q := run_wp hf hb hfi he (by rw [hg]; exact h)
section
variable {C : Cfg} {g : List PV} {H : List HO} {L : List (PV × HO)} {ops : Array Oper} {K : List PV → List HO → Prop} {l : List Oper} {ty : TypeId} {pos : String} {after : Array Edge} {dst : Option Tmp}
/-- A function value is called: a closed call whose result holds no address. -/
theorem w_vs {x : Operand} {args : Array Operand} {ats : Array TypeId} (f : FuncId) (first caps cargs : List PV) (v : PV) (hnf : ∀ k, x ≠ .func k) (hx : opnd C g x = .fn f first caps) (hinl : C.inl f = false) (hc : mapO (close H 6) (first ++ args.toList.map (opnd C g) ++ caps) = some cargs) (hr : Run C f cargs v) (hv : recv C H.length v = some (v, [])) (hq : ∀ H, calm H v = true)
    (k : WPo C false ops l (setD g dst v) H K) : WPo C false ops ({ dst, op := .call { callee := .value x, args, argTypes := ats }, type := ty, pos, after, guard := none } :: l) g H K := by
  rw [wpo_cons]
  have : opStep C (lim C) false ops { dst, op := .call { callee := .value x, args, argTypes := ats }, type := ty, pos, after, guard := none } g H = some (setD g dst v, H) := by
    unfold opStep
    have hr' : pcall C (lim C) f cargs = some v := hr
    simp only [wantedP, quiet, Bool.and_false, Bool.false_eq_true, if_false, qop, prep_call, mop, mcall, callV, hx, hinl, hc, hr', hv, seal_calm (hq H), List.append_nil]
  rw [this, onto_some]
  exact k
end
end Go.PI

end
section
/- The pure interpreter and its simulation, part 34. -/
set_option linter.unusedSimpArgs false
set_option linter.unusedVariables false
namespace Go.PI
theorem isC_nil : ([] : List PV).all isCell = true := rfl
theorem isC_cons {p : PV} {ps : List PV} (h : isCell p = true) (h' : ps.all isCell = true) : (p :: ps).all isCell = true := by simp only [List.all_cons, h, h', Bool.and_self]
theorem isC_lst (e n : Nat) (cs : List PV) : isCell (lstN e n cs) = true := by unfold lstN; split <;> rfl
theorem fill_nil {place : Nat → Option (Nat × Nat)} {cells : List PV} : fillP place cells [] = some cells := rfl
theorem fill_cons {place : Nat → Option (Nat × Nat)} {cells cells' r vs : List PV} {i off size : Nat} {v : PV} {rest : List (Nat × PV)} (hp : place i = some (off, size)) (hv : pcells v = vs) (hl : vs.length = size) (ho : Nat.ble (off + size) cells.length = true) (hc : vs.all isCell = true) (hs : splice cells off vs = cells') (h : fillP place cells' rest = some r) : fillP place cells ((i, v) :: rest) = some r := by
  unfold fillP
  have ho := Nat.le_of_ble_eq_true ho
  simp only [hp, hv, hl, ho, hc, hs, and_self, if_true]
  exact h
theorem pc_lst (e n : Nat) (cs : List PV) : pcells (lstN e n cs) = [lstN e n cs] := by unfold lstN; split <;> rfl
section
variable {C : Cfg} {g : List PV} {H : List HO} {L : List (PV × HO)} {d : Bool} {ops : Array Oper} {K : List PV → List HO → Prop} {l : List Oper} {ty : TypeId} {pos : String} {after : Array Edge} {dst : Option Tmp}
theorem bd_st {t : Nat} {z cs : List PV} {pl : List (Nat × Nat)} {parts : List (Nat × PV)} (hz : zeroP C t = some z) (hp : placesP C t = some pl) (h : fillP (fun i => pl[i]?) z parts = some cs) : buildP C t parts = some (.agg cs) := by
  unfold buildP
  simp only [hz, hp, h, Option.map_some]
theorem w_bs (ho : Own H L) {t len : Nat} {parts : Array (Nat × Operand)} (cells : List PV) {e sz : Nat} {z : List PV} (hel : elemP C t = some e) (hs : szOf C e = some sz) (hz : zeroP C e = some z) (h1 : len * sz ≤ 16777216) (h0 : 0 < sz) (hzl : z.length = sz) (hf : fillP (fun i => some (i * sz, sz)) (repl len z) (parts.toList.map fun (i, x) => (i, opnd C g x)) = some cells) (hl : cells.length = len * sz)
    (k : ∀ H1 r, Own H1 ((.row r 0 len, .cells e cells (some sz) false) :: L) → WPo C d ops l (setD g dst (.row r 0 len)) H1 K) :
    WPo C d ops ({ dst, op := .buildSlice t len parts, type := ty, pos, after, guard := none } :: l) g H K := by
  rw [s_q (fun c h => by cases h) rfl (v := .row H.length 0 len) (new := [.cells e cells (some sz) false]) (by simp only [qop, hel, hs, hz, hf]; rw [if_pos ⟨h1, h0, hzl⟩])]
  exact k _ _ (ho.row hl)
theorem Own.kill (h : Own H L) (k : Nat) {p : PV} {o : HO} {r : Nat} (x : HO) (hk : L[k]? = some (p, o)) (hp : Hd H p o (some r)) (hu : ∀ i, Hd H p o i → i = some r) : Own (H.set r x) (L.eraseIdx k) := by
  obtain ⟨ix, h1, h2, h3⟩ := h
  have hl : k < ix.length := by rw [h1]; exact (List.getElem?_eq_some_iff.1 hk).1
  have hr : ix[k]? = some (some r) := by
    have := h2 k p o ix[k] hk (by rw [List.getElem?_eq_getElem hl])
    rw [List.getElem?_eq_getElem hl, hu _ this]
  have at_ : ∀ {α : Type} (l : List α) (j : Nat), (l.eraseIdx k)[j]? = l[if j < k then j else j + 1]? := by
    intro α l j
    rw [List.getElem?_eraseIdx]
    split <;> rfl
  refine ⟨ix.eraseIdx k, by simp only [List.length_eraseIdx, h1], fun j p o i hj hi => ?_, fun j j' r hj hj' => ?_⟩
  · rw [at_] at hj hi
    refine (h2 _ p o i hj hi).mono fun r' hr' => ?_
    subst hr'
    refine List.getElem?_set_ne fun he => ?_
    subst he
    have := h3 _ _ _ hr hi
    split at this <;> omega
  · rw [at_] at hj hj'
    have := h3 _ _ r hj hj'
    split at this <;> split at this <;> omega
/-- append, to what is its own. -/
theorem w_app {α : Type} {f : α → List PV} {sz : Nat} (ho : Own H L) (k : Nat) {x y : Operand} {t0 t1 : TypeId} {p py : PV} {e e1 b : Nat} {z : List PV} {l0 l' : List α} (hf : ∀ a, (f a).length = sz) (L' : List (PV × HO)) (hk : L[k]? = some (p, .cells e (l0.flatMap f) (some sz) false)) (hx : opnd C g x = p) (hy : opnd C g y = py)
    (he : elemP C t0 = some e) (he1 : elemP C t1 = some e1) (hs : szOf C e = some sz) (hb : bytesOf C e = some b) (hz : zeroP C e = some z) (h0 : 0 < sz) (hzl : z.length = sz) (hsrc : ∃ e', slOf H py = some (e', l'.length, l'.flatMap f)) (h1 : (l0.length + l'.length) * b ≤ 70368744177664) (h2 : l0.length + l'.length ≤ 70368744177664)
    (hkd : kindP C t1 = none) (hL : L.eraseIdx k = L') (q : ∀ H1 p', Own H1 ((p', .cells e ((l0 ++ l').flatMap f) (some sz) false) :: L') → WPo C d ops l (setD g dst p') H1 K) :
    WPo C d ops ({ dst, op := .call { callee := .builtin .append, args := #[x, y], argTypes := #[t0, t1] }, type := ty, pos, after, guard := none } :: l) g H K := by
  have hla := flat_len hf l0
  have hlb := flat_len hf l'
  obtain ⟨e'', hsrc⟩ := hsrc
  have step : ∀ v H', appendP C #[t0, t1] p py H = some (v, H') → WPo C d ops l (setD g dst v) H' K → WPo C d ops ({ dst, op := .call { callee := .builtin .append, args := #[x, y], argTypes := #[t0, t1] }, type := ty, pos, after, guard := none } :: l) g H K := by
    intro v H' ha hK
    rw [wpo_cons]
    have : opStep C (lim C) d ops { dst, op := .call { callee := .builtin .append, args := #[x, y], argTypes := #[t0, t1] }, type := ty, pos, after, guard := none } g H = some (setD g dst v, H') := by
      unfold opStep
      simp only [wantedP, quiet, Bool.false_and, Bool.false_eq_true, if_false, qop, prep_call, mop, mcall, List.map_cons, List.map_nil, hx, hy, ha]
    rw [this, onto_some]
    exact hK
  have hroom : room = 70368744177664 := rfl
  have hadd : (l0 ++ l').flatMap f = l0.flatMap f ++ l'.flatMap f := List.flatMap_append
  have hln : (l0 ++ l').length = l0.length + l'.length := List.length_append
  have hlc : (l0.flatMap f ++ l'.flatMap f).length = (l0.length + l'.length) * sz := by rw [List.length_append, hla, hlb, Nat.add_mul]
  rcases ho.len k hk h0 hla with ⟨rfl, hn⟩ | ⟨r, rfl, hr⟩
  · have : l0 = [] := List.eq_nil_of_length_eq_zero hn
    subst this
    by_cases hm : l'.length = 0
    · have : l' = [] := List.eq_nil_of_length_eq_zero hm
      subst this
      refine step PI.nilS H ?_ (q H PI.nilS ?_)
      · unfold appendP
        simp only [List.getElem?_toArray, List.getElem?_cons_zero, List.getElem?_cons_succ, he, hs, hb, hz, h0, hzl, and_self, if_true, Option.bind_some, hkd, he1, Option.isSome_some, hsrc, Option.map_some]
        rfl
      · rw [← hL]
        exact (ho.drop k).nilS e sz
    · refine step (.row H.length 0 l'.length) (H ++ [.cells e (l'.flatMap f) (some sz) false]) ?_ (q _ _ ?_)
      · unfold appendP
        simp only [List.getElem?_toArray, List.getElem?_cons_zero, List.getElem?_cons_succ, he, hs, hb, hz, h0, hzl, and_self, if_true, Option.bind_some, hkd, he1, Option.isSome_some, hsrc, Option.map_some]
        show (if l'.length = 0 then _ else if l'.length * b ≤ room ∧ l'.length ≤ room ∧ (l'.flatMap f).length = l'.length * sz then _ else none) = _
        rw [if_neg hm, if_pos ⟨by rw [hroom]; simpa using h1, by rw [hroom]; simpa using h2, hlb⟩]
      · rw [← hL]
        simpa using (ho.drop k).row (s := false) (e := e) hlb
  · refine step (.row H.length 0 (l0.length + l'.length)) (H.set r .dead ++ [.cells e (l0.flatMap f ++ l'.flatMap f) (some sz) false]) ?_ (q _ _ ?_)
    · have hsl : slOf H (.row r 0 l0.length) = some (e, l0.length, l0.flatMap f) := by
        unfold slOf
        simp only [hr, Nat.zero_add, List.drop_zero, Nat.zero_mul]
        rw [if_pos (by omega), List.take_of_length_le (by omega)]
      unfold appendP
      simp only [List.getElem?_toArray, List.getElem?_cons_zero, List.getElem?_cons_succ, he, hs, hb, hz, h0, hzl, and_self, if_true, Option.bind_some, hkd, he1, Option.isSome_some, hsrc, Option.map_some, hr, hsl]
      rw [if_pos ⟨trivial, trivial, by rw [hroom]; exact h1, by rw [hroom]; exact h2, hlb, hla⟩]
    · rw [← hL, hadd]
      have h3 : Own (H.set r .dead) (L.eraseIdx k) := ho.kill k .dead hk (.row hr hla) (fun i hi => by cases hi; rfl)
      have := h3.row (s := false) (e := e) hlc
      rw [List.length_set] at this
      exact this
theorem sl_clo {e n : Nat} {cs : List PV} (h : n = 0 → cs = []) : ∃ e', slOf H (lstN e n cs) = some (e', n, cs) := by
  unfold lstN
  split
  · rename_i hn; subst hn; rw [h rfl]; exact ⟨_, rfl⟩
  · exact ⟨_, rfl⟩
theorem sl_ex {p : PV} {n : Nat} {cs : List PV} {e : Nat} (h : ∃ e', slOf H p = some (e', n, cs) ∧ (e' = e ∨ n = 0)) : ∃ e', slOf H p = some (e', n, cs) := by
  obtain ⟨e', h, _⟩ := h; exact ⟨e', h⟩
theorem sl_flat {α : Type} {f : α → List PV} (e : Nat) (l : List α) : ∃ e', slOf H (lstN e l.length (l.flatMap f)) = some (e', l.length, l.flatMap f) := sl_clo fun h => by rw [List.eq_nil_of_length_eq_zero h]; rfl
theorem rv_lst (m e n : Nat) (cs : List PV) : recv C m (lstN e n cs) = some (lstN e n cs, []) := by unfold lstN; split <;> rfl
theorem calm_tup (vs : List Value) : calm H (.tup (vs.map .s)) = true := by
  unfold calm
  refine List.all_eq_true.2 fun o _ => ?_
  have : ∀ e, hasE.hasL e (vs.map PV.s) = false := by
    intro e
    induction vs with
    | nil => simp [hasE.hasL]
    | cons v vs ih => simp only [List.map_cons, hasE.hasL, hasE_s, ih, Bool.or_self]
  cases o <;> simp [calmO, hasE, this]
/-- A closed call in any order hands back a slice of its own. -/
theorem w_cownd (ho : Own H L) {f : FuncId} {args : Array Operand} {ats : Array TypeId} (cargs : List PV) (e n sz : Nat) (cs : List PV) (hinl : C.inl f = false) (hc : mapO (close H 6) (args.toList.map (opnd C g)) = some cargs) (hr : Run C f cargs (.own e n cs)) (hs : szOf C e = some sz) (h0 : 0 < sz) (hl : cs.length = n * sz)
    (hq : calm H (.own e n cs) = true) (k : ∀ H1 r, Own H1 ((.row r 0 n, .cells e cs (some sz) false) :: L) → WPo C d ops l (setD g dst (.row r 0 n)) H1 K) :
    WPo C d ops ({ dst, op := .call { callee := .value (.func f), args, argTypes := ats }, type := ty, pos, after, guard := none } :: l) g H K :=
  s_call (q := .own e n cs) (v := .row H.length 0 n) (new := [.cells e cs (some sz) false]) hinl hc hr (by unfold recv recv1; simp only [hs, h0, hl, and_self, if_true]) hq (k _ _ (ho.row hl))
theorem recvL_s (m : Nat) (vs : List Value) : recvL C m (vs.map .s) = some (vs.map .s, []) := by
  induction vs with
  | nil => rfl
  | cons v vs ih => simp only [List.map_cons, recvL, recv1, List.length_nil, Nat.add_zero, ih, List.append_nil]
/-- It hands back a slice of its own, and more. -/
theorem w_cownt (ho : Own H L) {x : Operand} {f : FuncId} {first caps : List PV} {args : Array Operand} {ats : Array TypeId} (cargs : List PV) (e n sz : Nat) (cs : List PV) (vs : List Value) (L' : List (PV × HO)) (hx : opnd C g x = .fn f first caps) (hinl : C.inl f = false) (hc : mapO (close H 6) (first ++ args.toList.map (opnd C g) ++ caps) = some cargs) (hr : Run C f cargs (.tup (.own e n cs :: vs.map .s))) (hs : szOf C e = some sz) (h0 : 0 < sz) (hl : cs.length = n * sz)
    (hL : (L.map fun x => (x.1, sealO (.tup (.own e n cs :: vs.map .s)) x.2)) = L') (k : ∀ H1 r, Own H1 ((.row r 0 n, .cells e cs (some sz) false) :: L') → WPo C false ops l (setD g dst (.tup (.row r 0 n :: vs.map .s))) H1 K) :
    WPo C false ops ({ dst, op := .call { callee := .value x, args, argTypes := ats }, type := ty, pos, after, guard := none } :: l) g H K := by
  refine w_co (q := .tup (.own e n cs :: vs.map .s)) (v := .tup (.row H.length 0 n :: vs.map .s)) (new := [.cells e cs (some sz) false]) hx hinl hc hr ?_ ?_
  · show (recvL C H.length (.own e n cs :: vs.map .s)).map _ = _
    simp only [recvL, recv1, hs, h0, hl, and_self, if_true, recvL_s, Option.map_some, List.append_nil]
  · have := (ho.shutAll (.tup (.own e n cs :: vs.map .s))).row (s := false) (e := e) hl
    have hln : (sealH H (.tup (.own e n cs :: vs.map .s))).length = H.length := by simp [sealH]
    rw [hln, hL] at this
    exact k _ _ this
/-- One of a row is written. -/
theorem w_strl {α : Type} {f : α → List PV} {sz : Nat} (ho : Own H L) (i : Nat) {t : TypeId} {x y : Operand} {r e n : Nat} {l0 : List α} (a : α) (j : Int) (v : PV) (L' : List (PV × HO)) (hf : ∀ a, (f a).length = sz) (hk : L[i]? = some (.row r 0 n, .cells e (l0.flatMap f) (some sz) false)) (hx : opnd C g x = .ptr r (j.toNat * sz + 0)) (hy : opnd C g y = v)
    (hv : pcells v = f a) (hnr : holdsRow v = false) (hs : szOf C t = some sz) (h0 : 0 < sz) (h1 : (f a).all isCell = true) (hj : 0 ≤ j) (hj2 : j < l0.length) (hL : L.set i (.row r 0 n, .cells e ((l0.set j.toNat a).flatMap f) (some sz) false) = L')
    (k : ∀ H1, Own H1 L' → WPo C d ops l (setD g dst undefP) H1 K) : WPo C d ops ({ dst, op := .store t x y, type := ty, pos, after, guard := none } :: l) g H K := by
  have hb := flat_len hf l0
  have hbound : (j.toNat + 1) * sz ≤ l0.length * sz := Nat.mul_le_mul_right _ (by omega)
  rw [Nat.add_mul, Nat.one_mul] at hbound
  exact w_str ho i (off := j.toNat * sz) v _ L' hk hx hy hs hv hnr (hf a) h0 h1 (by rw [hb]; exact hbound) (flat_set hf l0 j.toNat a (by omega)) hL k
end
end Go.PI

end
section
/- The pure interpreter and its simulation, part 35. -/
set_option linter.unusedSimpArgs false
set_option linter.unusedVariables false
namespace Go.PI
open Go.RowKit
/-- A contract of the model as one of closed calls. -/
theorem callsQ_of {C : Cfg} {f : FuncId} {args : List PV} {q : PV} (hb : ∃ fn c, C.P.funcs[f]? = some fn ∧ fn.body = some c)
    (h : ∀ (w : World) (B0 : Nat → Nat → Prop) (vargs : Array Value), (∀ e b, B0 e b → b < w.heap.size) → (∀ n e cs, C.glob n = some (e, cs) → Rel w B0 mu0 (.lptr e cs) (.pointer (some ⟨n, 0, none⟩))) → RelL w B0 mu0 args vargs.toList →
      Calls C.P f vargs w fun e w' => ∃ v, e = .returned v ∧ Below w.heap.size w w' ∧ ResRel C w' w.heap.size B0 q v) : CallsQ C f args q := by
  refine ⟨hb, fun w B0 vargs h0 hg hr cs => ?_⟩
  obtain ⟨e, w', fr, ⟨v, rfl, hbel, hres⟩, h1, h2, h3⟩ := h w B0 vargs h0 hg hr cs
  refine ⟨w', fr, v, h1, h2, h3, ⟨hbel.os, hbel.tape, hbel.output, hbel.size, fun b hb _ => hbel.block b hb, fun b L hL => ⟨L, ?_⟩⟩, hres⟩
  rw [hbel.block b (Array.getElem?_eq_some_iff.1 hL).1]
  exact hL
/-- A row of the call's own as a result. -/
theorem res_own {C : Cfg} {w' : World} {base e sz n : Nat} {B0 : Nat → Nat → Prop} {v : Value} {us : List Value} {cs : List PV} (h : w'.ownsRow base e sz v n us) (hs : szOf C e = some sz) (h0 : 0 < sz)
    (hr : ∀ g, RelL w' (fun e b => (B0 e b ∨ (base ≤ b ∧ typed w' b e)) ∧ b ∉ [g]) mu0 cs us) (hc : ∀ p ∈ cs, isCell p = true) : ResRel C w' base B0 (.own e n cs) v := by
  obtain ⟨hl, h⟩ := h
  have hcl : cs.length = us.length := (hr 0).1.symm
  rcases h with ⟨rfl, rfl⟩ | ⟨g, cap, cur, rfl, hb, hh, hn, hm, hsz, ht⟩
  · have : cs = [] := List.eq_nil_of_length_eq_zero (by rw [hcl, hl]; simp)
    subst this
    exact ⟨[.own e 0 []], [.slice none 0 0], [], .inr ⟨fun l h => (by cases h), rfl, rfl⟩, List.nodup_nil, fun b hb => by simp at hb, .own0 .nil⟩
  · refine ⟨[.own e n cs], [_], [g], .inr ⟨fun l h => (by cases h), rfl, rfl⟩, by simp, fun b hb' => by simp at hb'; omega, .own hs h0 hn hh ?_ (by rw [hcl, hl]) ?_ .nil⟩
    · rw [hsz, Nat.zero_add]; exact Nat.le_refl _
    · intro i p hp
      have hi : i < us.length := by rw [← hcl]; exact (List.getElem?_eq_some_iff.1 hp).1
      have hu : us[i]? = some us[i] := List.getElem?_eq_getElem hi
      refine ⟨us[i], ?_, hc p (List.mem_of_getElem? hp), (hr g).2 i p _ hp hu⟩
      rw [Nat.zero_add, ← Array.getElem?_toList]
      have : (cur.toList.take (n * sz))[i]? = some us[i] := by rw [ht]; exact hu
      rw [List.getElem?_take] at this
      split at this
      · exact this
      · cases this
theorem res_own0 {C : Cfg} {w' : World} {base e sz : Nat} {B0 : Nat → Nat → Prop} {v : Value} (h : w'.ownsRow base e sz v 0 []) (hs : szOf C e = some sz) (h0 : 0 < sz) : ResRel C w' base B0 (.own e 0 []) v :=
  res_own h hs h0 (fun g => .nil) (fun p hp => by simp at hp)
theorem rel_lst0 {w : World} {B : Nat → Nat → Prop} {μ : Mu} {e : Nat} {x : Bool} {v : Value} (h : Rel w B μ (.lst e 0 [] x) v) : ∃ A c, v = .slice A 0 c := by
  cases h with
  | lst0 _ => exact ⟨_, _, rfl⟩
  | lst us hn => exact absurd hn (Nat.lt_irrefl 0)
theorem relL_one' {w : World} {B : Nat → Nat → Prop} {μ : Mu} {p : PV} {vs : Array Value} (h : RelL w B μ [p] vs.toList) : ∃ v, vs = #[v] ∧ Rel w B μ p v := by
  obtain ⟨u, us, h1, h2, h3⟩ := h.cons_inv
  have : us = [] := List.eq_nil_of_length_eq_zero h3.1
  subst this
  exact ⟨u, by cases vs; simp_all, h2⟩
end Go.PI

end
section
/- The pure interpreter and its simulation, part 36. -/
set_option linter.unusedSimpArgs false
set_option linter.unusedVariables false
namespace Go.PI
open Go.RowKit Go.Sort
theorem int_cells {w : World} {B : Nat → Nat → Prop} {μ : Mu} {p : PV} {u : Value} {n : Int} (hp : p = i64P n) (h : Rel w B μ p u) : u = .int .i64 n := by subst hp; exact h.sInv
/-- What is done in a row of whole numbers, by a contract of the model. -/
theorem row_fnSim {C : Cfg} {f : FuncId} {e : Nat} {zs zs' : List Int} {r : Nat} {H : List HO} {vs : List PV} (ret : Addr → Nat → List Value) (hpos : 0 < zs.length) (hl' : zs'.length = zs.length)
    (h : ∀ (blk off cap : Nat) (w : World), Holds (Value.int .i64) w blk off zs.toArray → blk < w.heap.size → zs.length ≤ cap → Calls C.P f #[.slice (some ⟨blk, off, none⟩) zs.length cap] w fun e w' => e = .returned (retOf (ret ⟨blk, off, none⟩ cap)) ∧ ∃ n os, w' = grow (putRow (Value.int .i64) (Sort.ahead w n) blk off zs'.toArray) os)
    (hr : H[r]? = some (.cells e (zs.map i64P) (some 1) false))
    (hret : ∀ (w : World) (B : Nat → Nat → Prop) (μ : Mu) (l : Loc), μ r = some l → l.blk = true → l.sz = 1 → zs.length ≤ l.cap → RelL w B μ vs (ret ⟨l.g, l.o, none⟩ l.cap)) :
    FnSim C f [.row r 0 zs.length] H vs (H.set r (.cells e (zs'.map i64P) (some 1) false)) := by
  intro B Bs μ w vargs cs st hargs
  obtain ⟨v, rfl, hv⟩ := relL_one' hargs
  rcases hv.rowInv with ⟨l, hmu, hbk, hle, rfl⟩ | ⟨l, A, _, hn, _⟩
  rotate_left
  · omega
  obtain ⟨o, ho, hobj⟩ := st.obj r l hmu
  rw [hr] at ho
  cases ho
  generalize hcs : zs.map i64P = cs0 at hobj
  cases hobj with
  | row0 hk _ _ => rw [hbk] at hk; cases hk
  | @row _ _ _ _ _ cur hk hsz hz h0 hh hl hb hc =>
    subst hcs
    have hsz1 : l.sz = 1 := hsz
    have e1 : l.o + 0 * l.sz = l.o := by omega
    rw [e1]
    have hcell : ∀ j, j < zs.length → cur[l.o + j]? = some (.int .i64 (zs.getD j 0)) := by
      intro j hj
      obtain ⟨u, h1, _, h2⟩ := hc j (i64P (zs.getD j 0)) (by simp [hj])
      rw [h1, int_cells rfl h2]
    have hH : Holds (Value.int .i64) w l.g l.o zs.toArray := by
      intro j hj
      have hj' : j < zs.length := by simpa using hj
      constructor
      · have := hcell j hj'
        simp only [World.cell?, hh, Option.isSome_none, Bool.false_eq_true, if_false, this]
        simp [hj']
      · simp [World.frozen?, hh]
    have hlt : l.g < w.heap.size := (Array.getElem?_eq_some_iff.1 hh).1
    have hcap : zs.length ≤ l.cap := by omega
    obtain ⟨en, w', fr, ⟨rfl, n, os, rfl⟩, h1, h2, h3⟩ := h l.g l.o (l.cap - 0) w hH hlt (by omega) cs
    have hheap : ∀ b, b < w.heap.size → b ≠ l.g → (grow (putRow (Value.int .i64) (Sort.ahead w n) l.g l.o zs'.toArray) os).heap[b]? = w.heap[b]? := by
      intro b hb hne
      show ((w.heap.modify l.g _) ++ os)[b]? = _
      rw [Array.getElem?_append_left (by simpa using hb), Array.getElem?_modify, if_neg (Ne.symm hne)]
    have hhg : (grow (putRow (Value.int .i64) (Sort.ahead w n) l.g l.o zs'.toArray) os).heap[l.g]? = some (.cells (putCells (Value.int .i64) l.o zs'.toArray cur) e (0, 0)) := by
      show ((w.heap.modify l.g _) ++ os)[l.g]? = _
      rw [Array.getElem?_append_left (by simpa using hlt), Array.getElem?_modify, if_pos rfl, hh]
      rfl
    have hp : Pres (fun b => b = l.g) w (grow (putRow (Value.int .i64) (Sort.ahead w n) l.g l.o zs'.toArray) os) := by
      refine ⟨rfl, rfl, rfl, ?_, fun b hb hne => hheap b hb hne, fun b L hL => ⟨L, ?_⟩⟩
      · show w.heap.size ≤ ((w.heap.modify l.g _) ++ os).size
        simp
      · have hne : b ≠ l.g := by rintro rfl; rw [hh] at hL; cases hL
        rw [hheap b (Array.getElem?_eq_some_iff.1 hL).1 hne]
        exact hL
    obtain ⟨st', he'⟩ := st.write hmu hr (o' := .cells e (zs'.map i64P) (some 1) false) rfl hbk hp rfl (fun B' hB' => by
      refine .row hk hsz hz h0 hhg ?_ ?_ ?_
      · simpa [hl'] using hl
      · simpa [putCells] using hb
      · intro i p hp'
        rw [List.getElem?_map] at hp'
        obtain ⟨z, hz', rfl⟩ := Option.map_eq_some_iff.1 hp'
        have hi := (List.getElem?_eq_some_iff.1 hz').1
        refine ⟨.int .i64 z, ?_, rfl, .s rfl⟩
        have hci := hcell i (by omega)
        have hsz' : zs'.toArray.size = zs'.length := by simp
        simp only [putCells, Array.getElem?_mapIdx, hci, Option.map_some]
        rw [if_pos ⟨by omega, by rw [hsz']; omega⟩]
        have : l.o + i - l.o = i := by omega
        rw [this]
        have hz2 := (List.getElem?_eq_some_iff.1 hz').2
        simp [hi, hz2])
    exact ⟨μ, _, fr, ret ⟨l.g, l.o, none⟩ (l.cap - 0), h1, h2, h3, st', he', hret _ _ _ _ hmu hbk hsz1 hcap⟩
theorem resL_conv {C C' : Cfg} (h : ∀ e, szOf C e = szOf C' e) {w' : World} {B1 : Nat → Nat → Prop} : ∀ {qs : List PV} {us : List Value} {bs : List Nat}, ResL C w' B1 qs us bs → ResL C' w' B1 qs us bs
  | _, _, _, .nil => .nil
  | _, _, _, .plain hn hr hl => .plain hn hr (resL_conv h hl)
  | _, _, _, .own0 hl => .own0 (resL_conv h hl)
  | _, _, _, .own hsz h0 hn hh hf hl hc hr => .own (by rw [← h]; exact hsz) h0 hn hh hf hl hc (resL_conv h hr)
/-- What a closed call comes to hangs on the program and its tables alone. -/
theorem callsQ_conv {C C' : Cfg} (hP : C.P = C'.P) (hG : C.glob = C'.glob) {f : FuncId} {args : List PV} {q : PV} (h : CallsQ C f args q) : CallsQ C' f args q := by
  obtain ⟨h1, h2⟩ := h
  refine ⟨by rw [← hP]; exact h1, fun w B0 vargs h0 hg hr cs => ?_⟩
  obtain ⟨w', fr, v, k1, k2, k3, k4, qs, us, bs, k5, k6, k7, k8⟩ := h2 w B0 vargs h0 (by rw [hG]; exact hg) hr cs
  rw [hP] at k1 k3
  exact ⟨w', fr, v, k1, k2, k3, k4, qs, us, bs, k5, k6, k7, resL_conv (fun e => by unfold szOf; rw [hP]) k8⟩
end Go.PI

end
section
/- The pure interpreter and its simulation, part 37. -/
set_option linter.unusedSimpArgs false
set_option linter.unusedVariables false
namespace Go.PI
section
variable {C : Cfg} {g : List PV} {H : List HO} {Q : Ex → List PV → List HO → Prop} {L : List (PV × HO)} {d : Bool} {ops : Array Oper} {K : List PV → List HO → Prop} {l : List Oper} {ty : TypeId} {pos : String} {after : Array Edge} {dst : Option Tmp}
theorem w_code {a b : Code} (e : a = b) (h : WP C b g H Q) : WP C a g H Q := by rw [e]; exact h
theorem run_ext {f : FuncId} {args : List PV} {q : PV} (h : C.ext f args = some q) : Run C f args q := by
  unfold Run pcall
  rw [h]
/-- A call within the heap. -/
theorem w_inl {x : Operand} {f : FuncId} {first caps : List PV} {args : Array Operand} {ats : Array TypeId} {fn : Func} {c : Code} (g1 : List PV) (hx : opnd C g x = .fn f first caps) (hi : C.inl f = true) (hh : C.hext f (first ++ args.toList.map (opnd C g) ++ caps) H = none) (hf : C.P.funcs[f]? = some fn) (hb : fn.body = some c) (hfi : C.fine f = true)
    (hg : (first ++ args.toList.map (opnd C g) ++ caps) ++ List.replicate (fn.ntmps - (first ++ args.toList.map (opnd C g) ++ caps).length) undefP = g1)
    (h : WP C c g1 H fun x g' H' => (x = .normal ∨ x = .ret) ∧ ∃ vs, mapRes (resVar C g' H') fn.results.toList = some vs ∧ WPo C false ops l (setD g dst (tupOf vs)) H' K) :
    WPo C false ops ({ dst, op := .call { callee := .value x, args, argTypes := ats }, type := ty, pos, after, guard := none } :: l) g H K := by
  obtain ⟨x', g', H', h1, h2, vs, h3, h4⟩ := h
  rw [wpo_cons]
  have hbr : bodyRun C (lim C) f (first ++ args.toList.map (opnd C g) ++ caps) H = some (vs, H') := by
    unfold bodyRun
    simp only [hf, hb, hfi, if_true]
    rw [hg, lim_eq, h1]
    simp only [h2, if_true, h3, Option.map_some]
  have : opStep C (lim C) false ops { dst, op := .call { callee := .value x, args, argTypes := ats }, type := ty, pos, after, guard := none } g H = some (setD g dst (tupOf vs), H') := by
    unfold opStep
    simp only [wantedP, Bool.and_false, Bool.false_eq_true, if_false, qop, prep_call, mop, mcall, callV, hx, hi, if_true, hh, icall, hbr, Option.map_some]
  rw [this, onto_some]
  exact h4
/-- A call within the heap, by a contract. -/
theorem w_hext {x : Operand} {f : FuncId} {first caps : List PV} {args : Array Operand} {ats : Array TypeId} {vs : List PV} {H' : List HO} (hx : opnd C g x = .fn f first caps) (hi : C.inl f = true) (hh : C.hext f (first ++ args.toList.map (opnd C g) ++ caps) H = some (vs, H'))
    (k : WPo C false ops l (setD g dst (tupOf vs)) H' K) : WPo C false ops ({ dst, op := .call { callee := .value x, args, argTypes := ats }, type := ty, pos, after, guard := none } :: l) g H K := by
  rw [wpo_cons]
  have : opStep C (lim C) false ops { dst, op := .call { callee := .value x, args, argTypes := ats }, type := ty, pos, after, guard := none } g H = some (setD g dst (tupOf vs), H') := by
    unfold opStep
    simp only [wantedP, Bool.and_false, Bool.false_eq_true, if_false, qop, prep_call, mop, mcall, callV, hx, hi, if_true, hh]
  rw [this, onto_some]
  exact k
theorem Own.getLp (h : Own H L) (k : Nat) {r : Nat} {o : HO} (hk : L[k]? = some (.yld r, o)) : H[r]? = some o := by
  obtain ⟨i, h⟩ := h.hd k hk
  cases h with
  | lp h => exact h
theorem Own.lp (h : Own H L) (st : LoopState) (p : Option Code) (g : List PV) (ps : List Tmp) (a b : Code) : Own (H ++ [.loop st p g ps a b]) ((.yld H.length, .loop st p g ps a b) :: L) := h.cons (grow_get _) (.lp (last_get H _)) (fun r hr => by cases hr; exact Nat.le_refl _)
theorem Own.putLp (h : Own H L) (k : Nat) {r : Nat} {o : HO} (st : LoopState) (p : Option Code) (g : List PV) (ps : List Tmp) (a b : Code) (hk : L[k]? = some (.yld r, o)) : Own (H.set r (.loop st p g ps a b)) (L.set k (.yld r, .loop st p g ps a b)) := by
  obtain ⟨i, hd⟩ := h.hd k hk
  cases hd with
  | lp h1 => exact h.put k hk (.lp h1) (fun i hi => by cases hi; rfl) (.lp (set_get h1))
/-- A loop over a function. -/
theorem w_range (ho : Own H L) {x : Operand} {k : FuncId} {first caps : List PV} {params : Array Tmp} {as bo : Code} {fn : Func} {c : Code} (g1 : PV → List PV) (hx : opnd C g x = .fn k first caps) (hi : C.inl k = true) (hf : C.P.funcs[k]? = some fn) (hb : fn.body = some c) (hfi : C.fine k = true)
    (hg : ∀ y, (first ++ [y] ++ caps) ++ List.replicate (fn.ntmps - (first ++ [y] ++ caps).length) undefP = g1 y)
    (h : ∀ H1 r as1 bo1, as1 = as → bo1 = bo → Own H1 ((.yld r, .loop .ready none g params.toList as1 bo1) :: L) → WP C c (g1 (.yld r)) H1 fun x g' H' => (x = .normal ∨ x = .ret) ∧ (∃ vs, mapRes (resVar C g' H') fn.results.toList = some vs) ∧
      ∃ i L' st pend g3 ps3 as3 bo3 x2, Own H' L' ∧ L'[i]? = some (.yld r, .loop st pend g3 ps3 as3 bo3) ∧ st ≠ .busy ∧ exOf pend = some x2 ∧ ∀ H3, Own H3 (L'.eraseIdx i) → Q x2 g H3) :
    WP C (.rangeFunc x params as bo) g H Q := by
  obtain ⟨x', g', H', h1, h2, ⟨vs, h3⟩, i, L', st, pend, g3, ps3, as3, bo3, x2, h4, h5, h6, h7, h8⟩ := h (H ++ [.loop .ready none g params.toList as bo]) H.length as bo rfl rfl (ho.lp _ _ _ _ _ _)
  have hbr : bodyRun C (lim C) k (first ++ [.yld H.length] ++ caps) (H ++ [.loop .ready none g params.toList as bo]) = some (vs, H') := by
    unfold bodyRun
    simp only [hf, hb, hfi, if_true]
    rw [hg, lim_eq, h1]
    simp only [h2, if_true, h3, Option.map_some]
  have hl := h4.getLp i h5
  refine ⟨x2, g, H'.set H.length (.loop .exhausted pend g3 ps3 as3 bo3), ?_, h8 _ ?_⟩
  · simp only [code, hx, hi, if_true, icall, hbr, Option.map_some, hl, h6, if_false, h7]
  · have := (h4.putLp i .exhausted pend g3 ps3 as3 bo3 h5).drop i
    rwa [List.eraseIdx_set_eq] at this
/-- A round of it. -/
theorem w_yield (ho : Own H L) (i : Nat) {x : Operand} {r : Nat} {args : Array Operand} {ats : Array TypeId} {p : Option Code} {g0 : List PV} {ps : List Tmp} {as bo : Code} (g1 : List PV) (hnf : ∀ k, x ≠ .func k) (hx : opnd C g x = .yld r) (hk : L[i]? = some (.yld r, .loop .ready p g0 ps as bo)) (hl : args.toList.length = ps.length)
    (hg : bind2 g0 ps (args.toList.map (opnd C g)) = g1)
    (h : WP C as g1 H fun x1 g2 H2 => x1 = .normal ∧ ∃ i2 L2 p2 g3 ps3 as3 bo3, Own H2 L2 ∧ L2[i2]? = some (.yld r, .loop .ready p2 g3 ps3 as3 bo3) ∧ ∀ H3, Own H3 (L2.set i2 (.yld r, .loop .busy p2 g3 ps3 as3 bo3)) → WP C bo g2 H3 fun x2 g4 H4 =>
      ∃ i4 L4 st p4 g5 ps5 as5 bo5, Own H4 L4 ∧ L4[i4]? = some (.yld r, .loop st p4 g5 ps5 as5 bo5) ∧ ∀ H5, Own H5 (L4.set i4 (.yld r, .loop (if (jumpOf x2).isNone then .ready else .done) (jumpOf x2) g5 ps5 as5 bo5)) → WPo C false ops l (setD g dst (boolP (jumpOf x2).isNone)) H5 K) :
    WPo C false ops ({ dst, op := .call { callee := .value x, args, argTypes := ats }, type := ty, pos, after, guard := none } :: l) g H K := by
  obtain ⟨x1, g2, H2, h1, rfl, i2, L2, p2, g3, ps3, as3, bo3, h2, h3, h4⟩ := h
  obtain ⟨x2, g4, H4, h5, i4, L4, st, p4, g5, ps5, as5, bo5, h6, h7, h8⟩ := h4 _ (h2.putLp i2 .busy p2 g3 ps3 as3 bo3 h3)
  rw [wpo_cons]
  have e1 := ho.getLp i hk
  have e2 := h2.getLp i2 h3
  have e4 := h6.getLp i4 h7
  have hl' : (args.toList.map (opnd C g)).length = ps.length := by simpa using hl
  have : opStep C (lim C) false ops { dst, op := .call { callee := .value x, args, argTypes := ats }, type := ty, pos, after, guard := none } g H = some (setD g dst (boolP (jumpOf x2).isNone), H4.set r (.loop (if (jumpOf x2).isNone then .ready else .done) (jumpOf x2) g5 ps5 as5 bo5)) := by
    unfold opStep
    simp only [wantedP, Bool.and_false, Bool.false_eq_true, if_false, qop, prep_call, mop, mcall, callV, hx, yieldP, e1, hl', if_true, hg]
    rw [lim_eq, h1]
    simp only [e2]
    rw [lim_eq, h5]
    simp only [e4]
  rw [this, onto_some]
  exact h8 _ (h6.putLp i4 _ _ _ _ _ _ h7)
theorem pc_own (ho : Own H L) (k : Nat) {p : PV} {e sz : Nat} {cs : List PV} {s : Bool} (hk : L[k]? = some (p, .cells e cs (some sz) s)) : pcells p = [p] := by
  obtain ⟨i, h⟩ := ho.hd k hk
  cases h <;> rfl
theorem isC_own (ho : Own H L) (k : Nat) {p : PV} {e sz : Nat} {cs : List PV} {s : Bool} (hk : L[k]? = some (p, .cells e cs (some sz) s)) : isCell p = true := by
  obtain ⟨i, h⟩ := ho.hd k hk
  cases h <;> rfl
theorem bound_i {e : Int} {dd : Nat} (h : 0 ≤ e) : bound (some (i64P e)) dd = some e.toNat := by
  show (if 0 ≤ e then some e.toNat else none) = _
  rw [if_pos h]
theorem w_qb {b : Builtin} {args : Array Operand} {ats : Array TypeId} (v : PV) (hq : quiet { dst, op := .call { callee := .builtin b, args, argTypes := ats }, type := ty, pos, after, guard := none } = true) (h : qop C { dst, op := .call { callee := .builtin b, args, argTypes := ats }, type := ty, pos, after, guard := none } g H = some (v, []))
    (k : WPo C d ops l (setD g dst v) H K) : WPo C d ops ({ dst, op := .call { callee := .builtin b, args, argTypes := ats }, type := ty, pos, after, guard := none } :: l) g H K := by
  rw [wpo_cons]
  have : opStep C (lim C) d ops { dst, op := .call { callee := .builtin b, args, argTypes := ats }, type := ty, pos, after, guard := none } g H = some (setD g dst v, H) := by
    unfold opStep
    cases d with
    | false => simp only [wantedP, Bool.and_false, Bool.false_eq_true, if_false, h, List.append_nil]
    | true => simp only [wantedP, hq, Bool.and_true, if_true, dop, h, List.append_nil]
  rw [this, onto_some]
  exact k
/-- Elements of a row of the heap's own. -/
def Pre (H : List HO) (p : PV) (e sz n : Nat) (cs : List PV) : Prop := (p = nilS ∧ n = 0 ∧ cs = []) ∨ ∃ r off full, p = .row r off n ∧ H[r]? = some (.cells e full (some sz) false) ∧ (off + n) * sz ≤ full.length ∧ (full.drop (off * sz)).take (n * sz) = cs
theorem pre_sl {p : PV} {e sz n : Nat} {cs : List PV} (h : Pre H p e sz n cs) : ∃ e', slOf H p = some (e', n, cs) := by
  rcases h with ⟨rfl, rfl, rfl⟩ | ⟨r, off, full, rfl, hr, hn, ht⟩
  · exact ⟨_, rfl⟩
  · refine ⟨e, ?_⟩
    unfold slOf
    simp only [hr]
    rw [if_pos hn, ht]
theorem cl_pre {p : PV} {d e sz n : Nat} {cs cs' : List PV} (h : Pre H p e sz n cs) (hc : mapO (close H d) cs = some cs') : close H (d + 1) p = some (lstN e n cs') := by
  rcases h with ⟨rfl, rfl, rfl⟩ | ⟨r, off, full, rfl, hr, hn, ht⟩
  · rfl
  · have : slOf H (.row r off n) = some (e, n, cs) := by
      unfold slOf
      simp only [hr]
      rw [if_pos hn, ht]
    simp only [close, this, hc, Option.map_some]
theorem cr_pre {t : TypeId} {o : List PV} {p : PV} {e sz n : Nat} {cs cs' : List PV} (h : Pre H p e sz n cs) (he : elemP C t = some e) (hs : szOf C e = some sz) (hoff : o.all (offOwn H e) = true) (hh : hasE.hasL e cs' = false) (hc : mapO (close H 5) cs = some cs') : closeRes C H t o p = some (.own e n cs') := by
  rcases h with ⟨rfl, rfl, rfl⟩ | ⟨r, off, full, rfl, hr, hn, ht⟩
  · cases hc
    exact cr_nil he
  · have : slOf H (.row r off n) = some (e, n, cs) := by
      unfold slOf
      simp only [hr]
      rw [if_pos hn, ht]
    unfold closeRes
    simp only [hr, this, hc, hoff, hh, hs]
    simp
/-- A slice of what is its own: from lo to hi. -/
theorem w_slO {α : Type} {f : α → List PV} {sz : Nat} (ho : Own H L) (k : Nat) {t e : TypeId} {x : Operand} {lo hi : Option Operand} {p : PV} {l0 : List α} (a b : Nat) (hf : ∀ a, (f a).length = sz) (h0 : 0 < sz) (hk : L[k]? = some (p, .cells e (l0.flatMap f) (some sz) false)) (hx : opnd C g x = p) (hel : elemP C t = some e) (hs : szOf C e = some sz)
    (hlo : bound (lo.map (opnd C g)) 0 = some a) (hhi : bound (hi.map (opnd C g)) l0.length = some b) (hab : a ≤ b) (hb : b ≤ l0.length) (q : ∀ p', Pre H p' e sz (b - a) (((l0.drop a).take (b - a)).flatMap f) → WPo C d ops l (setD g dst p') H K) :
    WPo C d ops ({ dst, op := .slice t x lo hi none, type := ty, pos, after, guard := none } :: l) g H K := by
  have hlen := flat_len hf l0
  rcases ho.len k hk h0 (n := l0.length) hlen with ⟨rfl, hn⟩ | ⟨r, rfl, hr⟩
  · have hb0 : b = 0 := by omega
    have ha0 : a = 0 := by omega
    subst hb0; subst ha0
    rw [hn] at hhi
    refine w_sl nilS ?_ (q nilS (.inl ⟨rfl, rfl, rfl⟩))
    rw [hx]
    unfold sliceP
    simp only [hel, hs]
    show (match bound (lo.map (opnd C g)) 0, bound (hi.map (opnd C g)) 0, (none : Option PV) with | some 0, some 0, none => some nilS | _, _, _ => none) = _
    rw [hlo, hhi]
    rfl
  · refine w_sl (.row r (0 + a) (b - a)) ?_ (q _ (.inr ⟨r, 0 + a, _, rfl, hr, ?_, ?_⟩))
    · rw [hx]
      unfold sliceP
      simp only [hel, hs, hr, hlo, hhi, Option.map_none]
      rw [if_pos ⟨trivial, hab, hb⟩]
    · rw [hlen]; exact Nat.mul_le_mul_right _ (by omega)
    · rw [Nat.zero_add]
      have e1 : ∀ (m : Nat) (l : List α), (l.flatMap f).drop (m * sz) = (l.drop m).flatMap f := by
        intro m
        induction m with
        | zero => intro l; simp
        | succ m ih =>
          intro l
          cases l with
          | nil => simp
          | cons c l =>
            rw [List.flatMap_cons, Nat.succ_mul, Nat.add_comm, List.drop_append, hf, List.drop_of_length_le (by rw [hf]; omega), List.nil_append, Nat.add_sub_cancel_left, ih]
            rfl
      have e2 : ∀ (m : Nat) (l : List α), (l.flatMap f).take (m * sz) = (l.take m).flatMap f := by
        intro m
        induction m with
        | zero => intro l; simp
        | succ m ih =>
          intro l
          cases l with
          | nil => simp
          | cons c l =>
            rw [List.flatMap_cons, Nat.succ_mul, Nat.add_comm, List.take_append, hf, List.take_of_length_le (by rw [hf]; omega), Nat.add_sub_cancel_left, ih]
            rfl
      rw [e1, e2]
end
end Go.PI

end
section
/- The pure interpreter and its simulation, part 38. -/
set_option linter.unusedSimpArgs false
set_option linter.unusedVariables false
namespace Go.PI
open Go.RowKit
section
variable {H : Type} {enc : TypeId × Value → H} {P : Program} {w : World} {spare : Nat → Bool} {held : Bool}
theorem cell_spot {a : Addr} {v : Value} (h : w.cell? a = some v) : a.spot = none ∧ a.block < w.heap.size := by
  unfold World.cell? at h
  split at h
  · rename_i hh
    refine ⟨?_, (Array.getElem?_eq_some_iff.1 hh).1⟩
    cases hs : a.spot with
    | none => rfl
    | some s => rw [hs] at h; simp at h
  · cases h
theorem add_two {a : Addr} (h : a.spot = none) (i j : Nat) : (a.add i).add j = a.add (i + j) := by
  obtain ⟨b, o, s⟩ := a
  have h : s = none := h
  subst h
  rw [add_plain', add_plain', add_plain', Nat.add_assoc]
theorem add_zero_' (a : Addr) : a.add 0 = a := by unfold Addr.add; simp
/-- A slice's elements, one by one, as cells. -/
theorem open_cells {α : Type} {f : α → List PV} {k : Nat} {a : Addr} {Good : α → Prop} (hf : ∀ x, (f x).length = k) (h0 : 0 < k) : ∀ (n : Nat), (∀ i, i < n → ∃ cs, w.cells? 0 (a.add (i * k)) k = some cs ∧ ∃ x, RelL w (inHeap w) mu0 (f x) cs ∧ Good x) →
    ∃ (l : List α) (us : List Value), l.length = n ∧ us.length = n * k ∧ (∀ x ∈ l, Good x) ∧ RelL w (inHeap w) mu0 (l.flatMap f) us ∧ (0 < n → a.spot = none ∧ a.block < w.heap.size) ∧ ∀ i u, us[i]? = some u → w.cell? (a.add i) = some u
  | 0, _ => ⟨[], [], rfl, by simp, fun x h => by simp at h, .nil, fun h => by omega, fun i u h => by simp at h⟩
  | n + 1, h => by
    obtain ⟨l, us, h1, h2, h3, h4, h5, h6⟩ := open_cells hf h0 n (fun i hi => h i (by omega))
    obtain ⟨cs, k1, x, k2, k3⟩ := h n (by omega)
    obtain ⟨_, kl, kc⟩ := World.cells?_some k1
    obtain ⟨hsp', hbl'⟩ : a.spot = none ∧ a.block < w.heap.size := by
      obtain ⟨cs0, q1, _⟩ := h 0 (by omega)
      obtain ⟨_, ql, qc⟩ := World.cells?_some q1
      have hc0 := qc 0 h0
      have hlt : 0 < cs0.length := by omega
      rw [List.getElem?_eq_getElem hlt, Nat.zero_mul, add_zero_', add_zero_'] at hc0
      exact cell_spot hc0
    refine ⟨l ++ [x], us ++ cs, by simp [h1], by rw [List.length_append, h2, kl, Nat.succ_mul], ?_, ?_, fun _ => ⟨hsp', hbl'⟩, ?_⟩
    · intro y hy
      rcases List.mem_append.1 hy with hy | hy
      · exact h3 y hy
      · simp at hy; subst hy; exact k3
    · rw [List.flatMap_append]
      refine h4.append ?_
      simpa using k2
    · intro i u hu
      by_cases hi : i < us.length
      · rw [List.getElem?_append_left hi] at hu
        exact h6 i u hu
      · rw [List.getElem?_append_right (by omega)] at hu
        have hi2 : i - us.length < k := by
          have := (List.getElem?_eq_some_iff.1 hu).1
          omega
        rw [← hu, ← kc _ hi2, add_two hsp', ← h2]
        congr 2
        omega
/-- A slice that came in. -/
theorem open_list {α : Type} {f : α → List PV} {k : Nat} {Good : α → Prop} {t e : TypeId} (hf : ∀ x, (f x).length = k) (hcell : ∀ x, (f x).all isCell = true) (h0 : 0 < k) (hk : P.cellsOf e = k) (ht : P.underlying t = some (.slice e))
    (helem : ∀ n cs x, DataW.trod enc P w 0 spare held n e cs = some x → ∃ a, RelL w (inHeap w) mu0 (f a) cs ∧ Good a)
    {fuel : Nat} {cs : List Value} {x : DataW H × List MemPlace} (h : DataW.trod enc P w 0 spare held fuel t cs = some x) :
    ∃ (v : Value) (l : List α), cs = [v] ∧ Rel w (inHeap w) mu0 (lstN e l.length (l.flatMap f)) v ∧ (∀ a ∈ l, Good a) ∧ (l.length : Int) ≤ 9223372036854775807 := by
  rcases Deep.open_slice ht h with ⟨rfl, _⟩ | ⟨a, len, cap, m, n, D, Pl, rfl, hb, hl, hm, hmm, _, hx⟩
  · exact ⟨_, [], rfl, .lst0 (fun h => by cases h), fun a h => by simp at h, by simp⟩
  · have hlm : len ≤ m := by rw [hmm]; split <;> omega
    rw [hk] at hx
    obtain ⟨l, us, h1, h2, h3, h4, h5, h6⟩ := open_cells (a := a) hf h0 len (fun i hi => by
      obtain ⟨cs', k1, k2⟩ := hx i (by omega)
      obtain ⟨y, k3, k4⟩ := helem n cs' _ k2
      exact ⟨cs', k1, y, k3, k4⟩)
    refine ⟨_, l, rfl, ?_, h3, ?_⟩
    · rw [h1]
      by_cases hz : len = 0
      · subst hz
        have : l = [] := List.eq_nil_of_length_eq_zero h1
        subst this
        exact .lst0 (fun h => by cases h)
      · obtain ⟨hsp, hbl⟩ := h5 (by omega)
        unfold lstN
        rw [if_neg hz]
        refine .lst us (by omega) hl (fun h => by cases h) hbl hsp h4.1 h6 ?_ h4.2
        intro p hp
        obtain ⟨y, _, hy⟩ := List.mem_flatMap.1 hp
        exact List.all_eq_true.1 (hcell y) p hy
    · unfold maxLen at hm
      omega
theorem relL_one_mk {B : Nat → Nat → Prop} {μ : Mu} {p : PV} {v : Value} (h : Rel w B μ p v) : RelL w B μ [p] [v] := .cons h .nil
theorem open_u8 {t : TypeId} (ht : P.underlying t = some (.int .u8)) {fuel : Nat} {cs : List Value} {x : DataW H × List MemPlace} (h : DataW.trod enc P w 0 spare held fuel t cs = some x) :
    ∃ b : UInt8, RelL w (inHeap w) mu0 [.s (.int .u8 b.toNat)] cs ∧ True := by
  obtain ⟨n, rfl, _, hwf⟩ := DataW.trod_int ht h
  refine ⟨UInt8.ofNat n.toNat, ?_, trivial⟩
  have hr : 0 ≤ n ∧ n ≤ 255 := by
    simp only [Lit.wf, IntKind.min, IntKind.max, IntKind.signed, IntKind.bits, Bool.and_eq_true, decide_eq_true_eq] at hwf
    simp at hwf
    omega
  have : ((UInt8.ofNat n.toNat).toNat : Int) = n := by
    rw [UInt8.toNat_ofNat']
    omega
  rw [this]
  exact relL_one_mk (.s rfl)
theorem open_i64 {t : TypeId} (ht : P.underlying t = some (.int .i64)) {fuel : Nat} {cs : List Value} {x : DataW H × List MemPlace} (h : DataW.trod enc P w 0 spare held fuel t cs = some x) :
    ∃ n : Int, RelL w (inHeap w) mu0 [i64P n] cs ∧ True := by
  obtain ⟨n, rfl, _, hwf⟩ := DataW.trod_int ht h
  exact ⟨n, relL_one_mk (.s rfl), trivial⟩
theorem open_field {t : TypeId} {fs : Array Field} (ht : P.underlying t = some (.struct fs)) {fuel : Nat} {cs : List Value} {x : DataW H × List MemPlace} (h : DataW.trod enc P w 0 spare held fuel t cs = some x) :
    cs.length = P.cellsOf t ∧ ∀ (i : Nat) (f : Field), fs[i]? = some f → ∃ n y, DataW.trod enc P w 0 spare held n f.type ((cs.drop f.offset).take (P.cellsOf f.type)) = some y := by
  obtain ⟨xs, n, _, _, hl, hx, hf⟩ := DataW.trod_struct ht h
  refine ⟨hl, fun i f hi => ?_⟩
  have hlt : i < xs.length := by rw [hx]; exact (Array.getElem?_eq_some_iff.1 hi).1
  exact ⟨n, xs[i], by rw [hf i f hi, List.getElem?_eq_getElem hlt]⟩
end
end Go.PI

end
