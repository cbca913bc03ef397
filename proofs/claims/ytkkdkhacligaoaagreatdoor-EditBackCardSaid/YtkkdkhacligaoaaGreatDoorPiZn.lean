/- The pure interpreter and its simulation, part 39. -/
import Derived.Test.YtkkdkhacligaoaaGreatDoorMd
set_option linter.unusedSimpArgs false
set_option linter.unusedVariables false
namespace Go.PI
/-- A closed list, as slicing leaves it. -/
def LsP (p : PV) (e n : Nat) (cs : List PV) (x : Bool) : Prop := ∃ e', p = .lst e' n cs x ∧ (e' = e ∨ n = 0)
theorem ls_lst {e n : Nat} {cs : List PV} (h : n = 0 → cs = []) : LsP (lstN e n cs) e n cs false := by
  unfold lstN
  split
  · rename_i hn; subst hn; rw [h rfl]; exact ⟨_, rfl, .inr rfl⟩
  · exact ⟨_, rfl, .inl rfl⟩
theorem ls_clo {α : Type} {f : α → List PV} (e : Nat) (l : List α) : LsP (lstN e l.length (l.flatMap f)) e l.length (l.flatMap f) false := ls_lst fun h => by rw [List.eq_nil_of_length_eq_zero h]; rfl
section
variable {C : Cfg} {g : List PV} {H : List HO} {L : List (PV × HO)} {d : Bool} {ops : Array Oper} {K : List PV → List HO → Prop} {l : List Oper} {ty : TypeId} {pos : String} {after : Array Edge} {dst : Option Tmp}
theorem lstN_ls {e e' n : Nat} {cs : List PV} (h : e' = e ∨ n = 0) : lstN e' n cs = lstN e n cs := by
  rcases h with rfl | rfl
  · rfl
  · rfl
theorem cl_ls {p : PV} {dd e n : Nat} {cs : List PV} {x : Bool} (h : LsP p e n cs x) : close H (dd + 1) p = some (lstN e n cs) := by
  obtain ⟨e', rfl, h⟩ := h
  rw [cl_lst', lstN_ls h]
theorem cr_ls {t : TypeId} {o : List PV} {p : PV} {e n : Nat} {cs : List PV} {x : Bool} (h : LsP p e n cs x) : closeRes C H t o p = some (lstN e n cs) := by
  obtain ⟨e', rfl, h⟩ := h
  rw [cr_lst', lstN_ls h]
theorem w_lenL {x : Operand} {t : TypeId} {p : PV} {e n : Nat} {cs : List PV} {fl : Bool} (m : Int) (h : LsP p e n cs fl) (ht : (elemP C t).isSome = true) (hx : opnd C g x = p) (hm : m = (n : Int)) (k : WPo C d ops l (setD g dst (i64P m)) H K) :
    WPo C d ops ({ dst, op := .call { callee := .builtin .len, args := #[x], argTypes := #[t] }, type := ty, pos, after, guard := none } :: l) g H K := by
  obtain ⟨e', rfl, h⟩ := h
  exact w_len m _ ht (by rw [hm]) hx k
theorem ix_ls {α : Type} [Inhabited α] {f : α → List PV} {t e e' sz : Nat} {p : PV} {fl : Bool} (hf : ∀ a, (f a).length = sz) (hel : elemP C t = some e') (hs : szOf C e' = some sz) {l : List α} {i : Int} (hp : LsP p e l.length (l.flatMap f) fl) (h0 : 0 ≤ i) (h1 : i < l.length) :
    indexAddrP C H t p (i64P i) = some (.lptr e (atF f sz l i 0)) := by
  obtain ⟨e'', rfl, h⟩ := hp
  obtain rfl : e'' = e := by rcases h with h | h; exact h; omega
  have := ix_lst (C := C) (H := H) (e := e'') hf hel hs h0 h1
  have hn : lstN e'' l.length (l.flatMap f) = .lst e'' l.length (l.flatMap f) false := by unfold lstN; rw [if_neg (by omega)]
  rw [hn] at this
  rw [← this]
  rfl
theorem flat_drop' {α : Type} {f : α → List PV} {sz : Nat} (hf : ∀ a, (f a).length = sz) : ∀ (m : Nat) (l : List α), (l.flatMap f).drop (m * sz) = (l.drop m).flatMap f := by
  intro m
  induction m with
  | zero => intro l; simp
  | succ m ih =>
    intro l
    cases l with
    | nil => simp
    | cons c l =>
      rw [List.flatMap_cons, Nat.succ_mul, Nat.add_comm, List.drop_append, hf, List.drop_of_length_le (by rw [hf]; omega), List.nil_append, Nat.add_sub_cancel_left, ih]
      rfl
theorem flat_take' {α : Type} {f : α → List PV} {sz : Nat} (hf : ∀ a, (f a).length = sz) : ∀ (m : Nat) (l : List α), (l.flatMap f).take (m * sz) = (l.take m).flatMap f := by
  intro m
  induction m with
  | zero => intro l; simp
  | succ m ih =>
    intro l
    cases l with
    | nil => simp
    | cons c l =>
      rw [List.flatMap_cons, Nat.succ_mul, Nat.add_comm, List.take_append, hf, List.take_of_length_le (by rw [hf]; omega), Nat.add_sub_cancel_left, ih]
      rfl
/-- A slice of a closed list. -/
theorem w_slL {α : Type} {f : α → List PV} {sz : Nat} {t e e0 : TypeId} {x : Operand} {lo hi : Option Operand} {p : PV} {fl : Bool} {l0 : List α} (a b : Nat) (hf : ∀ a, (f a).length = sz) (hp : LsP p e l0.length (l0.flatMap f) fl) (hx : opnd C g x = p) (hel : elemP C t = some e0) (hs : szOf C e0 = some sz)
    (hlo : bound (lo.map (opnd C g)) 0 = some a) (hhi : bound (hi.map (opnd C g)) l0.length = some b) (hab : a ≤ b) (hb : b ≤ l0.length) (l1 : List α) (fl1 : Bool) (hl1 : (l0.drop a).take (b - a) = l1) (hfl : (fl && b == l0.length) = fl1) (q : ∀ p', LsP p' e l1.length (l1.flatMap f) fl1 → WPo C d ops l (setD g dst p') H K) :
    WPo C d ops ({ dst, op := .slice t x lo hi none, type := ty, pos, after, guard := none } :: l) g H K := by
  obtain ⟨e', rfl, he⟩ := hp
  have hln : l1.length = b - a := by rw [← hl1, List.length_take, List.length_drop]; omega
  refine w_sl (.lst e' l1.length (l1.flatMap f) fl1) ?_ (q _ ⟨e', rfl, ?_⟩)
  · rw [hx, hln, ← hl1, ← hfl]
    unfold sliceP
    simp only [hel, hs, hlo, hhi, Option.map_none]
    rw [if_pos ⟨hab, hb⟩, flat_drop' hf, flat_take' hf]
  · rcases he with h | h
    · exact .inl h
    · exact .inr (by omega)
/-- With a bound on its capacity, too. -/
theorem w_slM {α : Type} {f : α → List PV} {sz : Nat} {t e e0 : TypeId} {x hi mx : Operand} {lo : Option Operand} {p : PV} {fl : Bool} {l0 : List α} (a b : Nat) (hf : ∀ a, (f a).length = sz) (hp : LsP p e l0.length (l0.flatMap f) fl) (hx : opnd C g x = p) (hel : elemP C t = some e0) (hs : szOf C e0 = some sz)
    (hlo : bound (lo.map (opnd C g)) 0 = some a) (hhi : bound (some (opnd C g hi)) l0.length = some b) (hmx : bound (some (opnd C g mx)) 0 = some b) (hab : a ≤ b) (hb : b ≤ l0.length) (l1 : List α) (hl1 : (l0.drop a).take (b - a) = l1) (q : ∀ p', LsP p' e l1.length (l1.flatMap f) true → WPo C d ops l (setD g dst p') H K) :
    WPo C d ops ({ dst, op := .slice t x lo (some hi) (some mx), type := ty, pos, after, guard := none } :: l) g H K := by
  obtain ⟨e', rfl, he⟩ := hp
  have hln : l1.length = b - a := by rw [← hl1, List.length_take, List.length_drop]; omega
  refine w_sl (.lst e' l1.length (l1.flatMap f) true) ?_ (q _ ⟨e', rfl, ?_⟩)
  · rw [hx, hln, ← hl1]
    unfold sliceP
    simp only [hel, hs, hlo, hhi, hmx, Option.map_some, Option.isSome_some]
    rw [if_pos ⟨hab, Nat.le_refl b, hb, trivial⟩, flat_drop' hf, flat_take' hf, beq_self_eq_true]
  · rcases he with h | h
    · exact .inl h
    · exact .inr (by omega)
theorem repl_flat {α : Type} {f : α → List PV} {a0 : α} {z : List PV} (h : f a0 = z) (m : Nat) : repl m z = (List.replicate m a0).flatMap f := by
  unfold repl
  induction m with
  | zero => rfl
  | succ m ih => rw [List.replicate_succ, List.replicate_succ, List.flatten_cons, List.flatMap_cons, ih, h]
/-- append of so many zeros, to a closed list whose capacity is its length. -/
theorem w_appZ {α : Type} {f : α → List PV} {sz : Nat} (ho : Own H L) {x y : Operand} {t0 t1 : TypeId} {p : PV} {e b : Nat} {z : List PV} {l0 : List α} {k1 : IntKind} (m : Int) (a0 : α) (hf : ∀ a, (f a).length = sz) (hp : LsP p e l0.length (l0.flatMap f) true) (hx : opnd C g x = p) (hy : opnd C g y = i64P m) (hm : 0 < m)
    (he : elemP C t0 = some e) (hs : szOf C e = some sz) (hb : bytesOf C e = some b) (hz : zeroP C e = some z) (h0 : 0 < sz) (hzl : f a0 = z) (h1 : (l0.length + m.toNat) * b ≤ 70368744177664) (h2 : l0.length + m.toNat ≤ 70368744177664)
    (hkd : kindP C t1 = some k1) (q : ∀ H1 p', Own H1 ((p', .cells e ((l0 ++ List.replicate m.toNat a0).flatMap f) (some sz) false) :: L) → WPo C d ops l (setD g dst p') H1 K) :
    WPo C d ops ({ dst, op := .call { callee := .builtin .append, args := #[x, y], argTypes := #[t0, t1] }, type := ty, pos, after, guard := none } :: l) g H K := by
  have hroom : room = 70368744177664 := rfl
  obtain ⟨e', rfl, he'⟩ := hp
  have hzl' : z.length = sz := by rw [← hzl]; exact hf a0
  have hrl : (repl m.toNat z).length = m.toNat * sz := by rw [repl_flat hzl, flat_len hf, List.length_replicate]
  have ha : appendP C #[t0, t1] (.lst e' l0.length (l0.flatMap f) true) (i64P m) H = some (.row H.length 0 (l0.length + m.toNat), H ++ [.cells e (l0.flatMap f ++ repl m.toNat z) (some sz) false]) := by
    unfold appendP
    simp only [List.getElem?_toArray, List.getElem?_cons_zero, List.getElem?_cons_succ, he, hs, hb, hz, h0, hzl', and_self, if_true, Option.bind_some, hkd, i64P]
    rw [if_pos ⟨by omega, by rw [hroom]; omega⟩]
    dsimp only
    rw [if_pos he', if_neg (by omega), if_pos ⟨by rw [hroom]; exact h1, by rw [hroom]; exact h2, hrl, flat_len hf l0⟩]
  rw [wpo_cons]
  have : opStep C (lim C) d ops { dst, op := .call { callee := .builtin .append, args := #[x, y], argTypes := #[t0, t1] }, type := ty, pos, after, guard := none } g H = some (setD g dst (.row H.length 0 (l0.length + m.toNat)), H ++ [.cells e (l0.flatMap f ++ repl m.toNat z) (some sz) false]) := by
    unfold opStep
    simp only [wantedP, quiet, Bool.false_and, Bool.false_eq_true, if_false, qop, prep_call, mop, mcall, List.map_cons, List.map_nil, hx, hy, ha]
  rw [this, onto_some]
  refine q _ _ ?_
  rw [List.flatMap_append, ← repl_flat hzl]
  exact ho.row (by rw [List.length_append, hrl, flat_len hf, Nat.add_mul])
theorem flat_set_part {α : Type} {f : α → List PV} {sz : Nat} (hf : ∀ a, (f a).length = sz) : ∀ (l : List α) (i : Nat) (hi : i < l.length) (a : α) (o : Nat) (vs : List PV), o + vs.length ≤ sz → splice (f l[i]) o vs = f a → splice (l.flatMap f) (i * sz + o) vs = (l.set i a).flatMap f := by
  intro l i hi a o vs ho h
  have h1 := flat_set hf l i a hi
  rw [← h1, ← h]
  have hd : (l.flatMap f).drop (i * sz) = f l[i] ++ (l.drop (i + 1)).flatMap f := by
    rw [flat_drop' hf, List.drop_eq_getElem_cons hi, List.flatMap_cons]
  have hl := hf l[i]
  have htl : ((l.flatMap f).take (i * sz)).length = i * sz := by
    rw [List.length_take, flat_len hf]
    have : i * sz ≤ l.length * sz := Nat.mul_le_mul_right _ (by omega)
    omega
  have hsplit : l.flatMap f = (l.flatMap f).take (i * sz) ++ (f l[i] ++ (l.drop (i + 1)).flatMap f) := by rw [← hd, List.take_append_drop]
  generalize hA : (l.flatMap f).take (i * sz) = A at *
  generalize hB : (l.drop (i + 1)).flatMap f = B at *
  generalize hF : f l[i] = F at *
  rw [hsplit]
  unfold splice
  have e1 : (A ++ (F ++ B)).take (i * sz + o) = A ++ F.take o := by
    rw [List.take_append, List.take_of_length_le (by omega), htl, Nat.add_sub_cancel_left, List.take_append, show o - F.length = 0 by omega, List.take_zero, List.append_nil]
  have e2 : (A ++ (F ++ B)).drop (i * sz + o + vs.length) = F.drop (o + vs.length) ++ B := by
    rw [List.drop_append, List.drop_of_length_le (by omega), List.nil_append, htl, List.drop_append, show i * sz + o + vs.length - i * sz = o + vs.length by omega, show o + vs.length - F.length = 0 by omega, List.drop_zero]
  have e3 : (A ++ (F ++ B)).take (i * sz) = A := by rw [List.take_append, List.take_of_length_le (by omega), htl, Nat.sub_self, List.take_zero, List.append_nil]
  have hlen : (F.take o ++ (vs ++ F.drop (o + vs.length))).length = sz := by simp; omega
  have e4 : (A ++ (F ++ B)).drop (i * sz + (F.take o ++ (vs ++ F.drop (o + vs.length))).length) = B := by
    rw [hlen, List.drop_append, List.drop_of_length_le (by omega), List.nil_append, htl, List.drop_append, List.drop_of_length_le (by omega), List.nil_append, show i * sz + sz - i * sz - F.length = 0 by omega, List.drop_zero]
  rw [e1, e2, e3, e4]
  simp only [List.append_assoc]
/-- A row of its own is laid into a place of another row's: from here on nobody writes it. -/
theorem w_strf {α : Type} [Inhabited α] {f : α → List PV} {sz : Nat} (ho : Own H L) (i : Nat) {t : TypeId} {x : Operand} {kk : Tmp} {r e n : Nat} {l0 : List α} (a' : α) (j : Int) (off : Nat) (q : PV) (r0 o0 n0 : Nat) (g1 : List PV) (L1 L' : List (PV × HO)) (hf : ∀ a, (f a).length = sz)
    (hx : opnd C g x = .ptr r (j.toNat * sz + off)) (hy : g.getD kk undefP = .row r0 o0 n0) (hk0 : L[i]? = some (.row r 0 n, .cells e (l0.flatMap f) (some sz) false)) (hcl : close H 6 (.row r0 o0 n0) = some q) (hg1 : g.set kk q = g1) (hx1 : opnd C g1 x = .ptr r (j.toNat * sz + off)) (hy1 : opnd C g1 (.tmp kk) = q) (hq : pcells q = [q]) (hq2 : isCell q = true)
    (hs : szOf C t = some 1) (hL1 : (L.map fun x => (x.1, sealO q x.2)) = L1) (hk : L1[i]? = some (.row r 0 n, .cells e (l0.flatMap f) (some sz) false)) (hj : 0 ≤ j) (hj2 : j < l0.length) (hoff : off + 1 ≤ sz) (ha : splice (f (nth l0 j)) off [q] = f a') (hL : L1.set i (.row r 0 n, .cells e ((l0.set j.toNat a').flatMap f) (some sz) false) = L')
    (k : ∀ H1, Own H1 L' → WPo C d ops l (setD g1 dst undefP) H1 K) : WPo C d ops ({ dst, op := .store t x (.tmp kk), type := ty, pos, after, guard := none } :: l) g H K := by
  have hos := ho.shutAll q
  rw [hL1] at hos
  have hb := flat_len hf l0
  have hbound : (j.toNat + 1) * sz ≤ l0.length * sz := Nat.mul_le_mul_right _ (by omega)
  rw [Nat.add_mul, Nat.one_mul] at hbound
  have hget : ∃ cs s, H[r]? = some (.cells e cs (some sz) s) := ⟨_, _, ho.getRow i hk0⟩
  have hsp : splice (l0.flatMap f) (j.toNat * sz + off) [q] = (l0.set j.toNat a').flatMap f := by
    have hjl : j.toNat < l0.length := by omega
    refine flat_set_part hf l0 j.toNat hjl a' off [q] (by simpa using hoff) ?_
    rw [← ha]
    congr 2
    simp [nth, hjl]
  have hprep : prepP C { dst, op := .store t x (.tmp kk), type := ty, pos, after, guard := none } g H = some (g1, sealH H q) := by
    unfold prepP
    simp only [hx, ho.getRow i hk0]
    unfold frzT
    rw [hy, show holdsRow (.row r0 o0 n0) = true from rfl, if_pos rfl, hcl, Option.map_some, hg1]
  rw [wpo_cons]
  have hst : storeP C (sealH H q) t (.ptr r (j.toNat * sz + off)) q = some ((sealH H q).set r (.cells e ((l0.set j.toNat a').flatMap f) (some sz) false)) := by
    unfold storeP
    simp only [hos.getRow i hk, hs, hq, List.length_singleton, List.all_cons, List.all_nil, hq2, Bool.and_self]
    rw [if_pos ⟨trivial, by decide, trivial, by rw [hb]; omega⟩, hsp]
  have : opStep C (lim C) d ops { dst, op := .store t x (.tmp kk), type := ty, pos, after, guard := none } g H = some (setD g1 dst undefP, (sealH H q).set r (.cells e ((l0.set j.toNat a').flatMap f) (some sz) false)) := by
    unfold opStep
    simp only [wantedP, quiet, Bool.false_and, Bool.false_eq_true, if_false, qop, hprep, mop, hx1, hy1, hst, Option.map_some]
  rw [this, onto_some]
  refine k _ ?_
  rw [← hL]
  exact hos.putRow i hk (by rw [flat_len hf, flat_len hf, List.length_set])
/-- It hands back a closed list, and more. -/
theorem w_cclt (ho : Own H L) {x : Operand} {f : FuncId} {first caps : List PV} {args : Array Operand} {ats : Array TypeId} (cargs : List PV) (e n : Nat) (cs : List PV) (vs : List Value) (L' : List (PV × HO)) (hx : opnd C g x = .fn f first caps) (hinl : C.inl f = false) (hc : mapO (close H 6) (first ++ args.toList.map (opnd C g) ++ caps) = some cargs) (hr : Run C f cargs (.tup (lstN e n cs :: vs.map .s)))
    (hL : (L.map fun x => (x.1, sealO (.tup (lstN e n cs :: vs.map .s)) x.2)) = L') (k : ∀ H1, Own H1 L' → WPo C false ops l (setD g dst (.tup (lstN e n cs :: vs.map .s))) H1 K) :
    WPo C false ops ({ dst, op := .call { callee := .value x, args, argTypes := ats }, type := ty, pos, after, guard := none } :: l) g H K := by
  refine w_co (q := .tup (lstN e n cs :: vs.map .s)) (v := .tup (lstN e n cs :: vs.map .s)) (new := []) hx hinl hc hr ?_ ?_
  · show (recvL C H.length (lstN e n cs :: vs.map .s)).map _ = _
    have : recv1 C H.length (lstN e n cs) = some (lstN e n cs, []) := by unfold lstN; split <;> rfl
    simp only [recvL, this, List.length_nil, Nat.add_zero, recvL_s, Option.map_some, List.append_nil]
  · rw [List.append_nil]
    exact k _ (hL ▸ ho.shutAll _)
theorem ls_map {α β : Type} {f : α → List PV} {h : β → List PV} {r : α → β} {p : PV} {e : Nat} {t : List α} {x : Bool} (hr : ∀ a, h (r a) = f a) (hp : LsP p e t.length (t.flatMap f) x) : LsP p e (t.map r).length ((t.map r).flatMap h) x := by
  have : (t.map r).flatMap h = t.flatMap f := by
    clear hp
    induction t with
    | nil => rfl
    | cons a t ih => rw [List.map_cons, List.flatMap_cons, List.flatMap_cons, ih, hr]
  rw [List.length_map, this]
  exact hp
/-! ### Results that stand in variables -/
theorem mr_nil {f : ResultVar → Option PV} : mapRes f [] = some [] := rfl
theorem mr_cons {f : ResultVar → Option PV} {r : ResultVar} {rs : List ResultVar} {v : PV} {vs : List PV} (h : f r = some v) (h' : mapRes f rs = some vs) : mapRes f (r :: rs) = some (v :: vs) := by
  unfold mapRes
  simp only [h, h', Option.map_some]
theorem rv_tmp {t : Tmp} {v : PV} (h : g.getD t undefP = v) : resVar C g H (.tmp t) = some v := by subst h; rfl
theorem rv_cell {a : Tmp} {t : TypeId} {p v : PV} (hp : g.getD a undefP = p) (h : loadP C H t p = some v) : resVar C g H (.cell a t) = some v := by subst hp; exact h
end
end Go.PI
