/- A part of the proof of a law: texts of this claim, joined by a program of the prover (Sh1, Sh2, Sh3, Sh4, Sh5, Sh6, Sh7, Sh8, Sh9, Sh10, Mem, MemO, Sh11, RefO, Sh12, Sh13, Sh14, Num, Stk, Sh15, Prim, Banks, RefAdd, Own). Conditions: those that each law names. -/
import Derived.Tactics
import Derived.OrdersHeld
import Derived.KernelRfl
import Derived.Laws.Tables
import Derived.Laws.Rows
import Derived.Laws.AppendOwn
import Derived.Laws.MakeOwn
import Derived.Maps.AppendAt
import Derived.Deep.MidRow
import Derived.Below
import Derived.Deep.OwnRows
import Derived.Laws.CopyRow
import Derived.MapKept
import Derived.Laws.StructEq
set_option linter.unusedVariables false
set_option linter.unusedSimpArgs false
set_option linter.unusedSectionVars false
set_option linter.unnecessarySimpa false
namespace Go.Sh

abbrev Env := Nat → Value
def upd (d : Nat) (v : Value) (ε : Env) : Env := fun t => cond (Nat.beq t d) v (ε t)
def put (d : Option Tmp) (v : Value) (ε : Env) : Env := match d with | some d => upd d v ε | none => ε
def ev (ε : Env) : Operand → Value
  | .tmp t => ε t
  | .const v => v
  | .global g => .pointer (some ⟨g, 0, none⟩)
  | .func f => .func (.func f) #[] #[]
abbrev K0 := Value → World → Prop
abbrev KP := List PanicEntry → World → Prop

/-- how a call may end -/
def EndsS (Kp : KP) (K : K0) : Ending → World → Prop
  | .returned v, w => K v w
  | .panicked ch, w => Kp ch w
  | .outgrown, _ => False
/-- what becomes of an operation's outcome -/
def upon (P : Program) (K : K0) (Kp : KP) : Result Next → Prop
  | .ok (.value v) w => K v w
  | .ok .skip w => K undef w
  | .ok (.enter f args) w => Calls P f args w (EndsS Kp K)
  | .halt (.panic v) w => Kp [{ v, recovered := false }] w
  | _ => False
/-- one operation -/
structure S (P : Program) (s : Sem Next) (w : World) (Kp : KP) (K : K0) : Prop where
  out : upon P K Kp (s.run P w)
/-- one that is guarded -/
structure GS (g : Value) (want : Bool) (P : Program) (s : Sem Next) (w : World) (Kp : KP) (K : K0) : Prop where
  out : match g with
    | .bool b => cond (b == want) (S P s w Kp K) (K undef w)
    | _ => K undef w
def gv (ops : Array Oper) (ε : Env) (j : Nat) : Value :=
  match ops[j]? with
  | some o => match o.dst with | some d => ε d | none => undef
  | none => undef
/-- the slots that are known -/
abbrev Ds := List Nat
def rd (D : Ds) : Operand → Bool
  | .tmp t => D.elem t
  | _ => true
def rds (D : Ds) (ops : Array Oper) (o : Oper) : Bool :=
  o.op.operands.toList.all (rd D) && match o.guard with
    | none => true
    | some (j, _) => match ops[j]? with | some o => (match o.dst with | some d => D.elem d | none => true) | none => true
def putD (d : Option Tmp) (D : Ds) : Ds := match d with | some d => d :: D | none => D
/-- what goes on: the slots that are known, their values, the world -/
abbrev KE := Ds → Env → World → Prop
def opE (P : Program) (ops : Array Oper) (o : Oper) (D : Ds) (ε : Env) (w : World) (Kp : KP) (K : KE) : Prop :=
  match rds D ops o with
  | true => match o.guard with
    | none => match o.op with
      | .move x | .assign x => K (putD o.dst D) (put o.dst (ev ε x) ε) w
      | _ => S P (execOp (ev ε) o) w Kp fun v w' => K (putD o.dst D) (put o.dst v ε) w'
    | some (j, want) => GS (gv ops ε j) want P (execOp (ev ε) o) w Kp fun v w' => K (putD o.dst D) (put o.dst v ε) w'
  | false => False
def regE (P : Program) (ops : Array Oper) (Kp : KP) (K : KE) : List Oper → KE
  | [], D, ε, w => K D ε w
  | o :: rest, D, ε, w => opE P ops o D ε w Kp fun D' ε' w' => regE P ops Kp K rest D' ε' w'

/-- an operation that yields the same in every world that meets H -/
structure Fl (P : Program) (H : World → Prop) (s : Sem Next) (K : Value → Prop) : Prop where
  out : ∃ v, (∀ w, H w → s.run P w = .ok (.value v) w) ∧ K v
structure GF (g : Value) (want : Bool) (P : Program) (H : World → Prop) (s : Sem Next) (K : Value → Prop) : Prop where
  out : match g with
    | .bool b => cond (b == want) (Fl P H s K) (K undef)
    | _ => K undef
def floats : Op → Bool
  | .move _ | .assign _ | .pick .. | .nilCheck _ | .binOp .. | .unOp .. | .convert .. | .fieldAddr .. | .field .. | .indexAddr .. | .index .. | .extract .. | .slice .. | .build ..
  | .load .. | .lookup .. | .makeInterface .. | .makeFunc .. | .typeAssert .. => true
  | .call { callee := .builtin .len, .. } | .call { callee := .builtin .cap, .. } | .call { callee := .builtin .min, .. } | .call { callee := .builtin .max, .. } => true
  | _ => false
def opF (P : Program) (H : World → Prop) (ops : Array Oper) (o : Oper) (D : Ds) (ε : Env) (K : Ds → Env → Prop) : Prop :=
  match rds D ops o with
  | true => match o.guard with
    | none => match o.op with
      | .move x | .assign x => K (putD o.dst D) (put o.dst (ev ε x) ε)
      | _ => Fl P H (execOp (ev ε) o) fun v => K (putD o.dst D) (put o.dst v ε)
    | some (j, want) => GF (gv ops ε j) want P H (execOp (ev ε) o) fun v => K (putD o.dst D) (put o.dst v ε)
  | false => False
def flAt (ops : Array Oper) (listed : Array Bool) (i : Nat) : Bool :=
  (match ops[i]? with | some o => floats o.op | none => false) && Region.free .any ops listed i
def allE (X : Nat → Prop) : List Nat → Prop
  | [] => True
  | [i] => X i
  | i :: is => X i ∧ allE X is
/-- does operation i wait for all that have come up? -/
def waits (ops : Array Oper) : Nat → Nat → Nat → Bool
  | 0, _, _ => false
  | n + 1, i, j => match ops[i]? with
    | some o => o.after.any (fun e => Region.binds .any e && e.on == j) || o.after.any (fun e => Region.binds .any e && waits ops n e.on j)
    | none => false
def bar (ops : Array Oper) (listed : Array Bool) (i : Nat) : Bool :=
  (List.range ops.size).all fun j => !listed.getD j false || waits ops 3 i j
def drawE (P : Program) (ops : Array Oper) (Kp : KP) (K : KE) : Nat → (World → Prop) → Array Bool → KE
  | 0, _, listed, D, ε, w => match Region.ready .any ops listed with | [] => K D ε w | _ => False
  | n + 1, H, listed, D, ε, w =>
    match Region.ready .any ops listed with
    | [] => K D ε w
    | r :: rs =>
      match (r :: rs).find? (flAt ops listed) with
      | some i => match ops[i]? with
        | some o => opF P H ops o D ε fun D' ε' => drawE P ops Kp K n H (listed.setIfInBounds i true) D' ε' w
        | none => False
      | none => allE (fun i => match ops[i]? with
        | some o => opE P ops o D ε w Kp fun D' ε' w' => match bar ops listed i with
          | true => (match Region.ready .any ops (listed.setIfInBounds i true) with
            | [] => K D' ε' w'
            | _ => ∃ H' : World → Prop, H' w' ∧ drawE P ops Kp K n H' (listed.setIfInBounds i true) D' ε' w')
          | false => H w' ∧ drawE P ops Kp K n H (listed.setIfInBounds i true) D' ε' w'
        | none => False) (r :: rs)

structure C (v : Value) (A B : Prop) : Prop where
  out : match v with | .bool b => cond b A B | _ => False

abbrev QE := Exit → KE
def thn (next : KE) (Q : QE) : QE
  | .normal, D, ε, w => next D ε w
  | e, D, ε, w => Q e D ε w
def blk (id : Nat) (Q : QE) : QE
  | .exit id', D, ε, w => match Nat.beq id' id with | true => Q .normal D ε w | false => Q (.exit id') D ε w
  | e, D, ε, w => Q e D ε w
/-- a world behind a draw -/
def drewW (w : World) : World := { w with drawn := w.drawn + 1 }
def E0 : Env := fun _ => undef
/-- the slots that are carried over a join -/
def keep (ε : Env) : Ds → Env
  | [] => E0
  | t :: G => upd t (ε t) (keep ε G)
structure LoopE (I : Env → World → Prop) (μ : Env → World → Nat) (R : (Env → World → Prop) → Env → World → Prop) (ε : Env) (w : World) : Prop where
  start : I ε w
  round : ∀ ε w, I ε w → R (fun ε' w' => I ε' w' ∧ μ ε' w' < μ ε w) ε w
/-- a join -/
def J (f : Env → World → Prop) (g : (Env → World → Prop) → Prop) : Prop := g f
/-- are all of the slots G known? -/
def sub (G D : Ds) : Bool := G.all D.elem
def jn (G : Ds) (k : Env → World → Prop) : KE := fun D ε w => match sub G D with | true => k (keep ε G) w | false => False
def straight : Code → Bool
  | .region .. | .skip | .label _ => true
  | .seq a b => straight a && straight b
  | _ => false
def wpE (P : Program) (G : Ds) : Code → QE → KE
  | .skip, Q, D, ε, w | .label _, Q, D, ε, w => Q .normal D ε w
  | .region _ ops false, Q, D, ε, w => regE P ops (fun ch w => Q (.panic ch) [] E0 w) (fun D ε w => Q .normal D ε w) ops.toList D ε w
  | .region _ ops true, Q, D, ε, w => ∃ H : World → Prop, H (drewW w) ∧
      drawE P ops (fun ch w => Q (.panic ch) [] E0 w) (fun D ε w => Q .normal D ε w) ops.size H (Array.replicate ops.size false) D ε (drewW w)
  | .seq x y, Q, D, ε, w => match straight x with
    | true => wpE P G x (thn (fun D ε w => wpE P G y Q D ε w) Q) D ε w
    | false => J (fun ε w => wpE P G y Q G ε w) (fun k => wpE P G x (thn (jn G k) Q) D ε w)
  | .cond c x y, Q, D, ε, w => match rd D c with
    | true => C (ev ε c) (wpE P G x Q D ε w) (wpE P G y Q D ε w)
    | false => False
  | .block id c, Q, D, ε, w => wpE P G c (blk id Q) D ε w
  | .loop c, Q, D, ε, w => match sub G D with
    | true => ∃ I μ, LoopE I μ (fun K ε w => wpE P G c (thn (jn G K) Q) G ε w) (keep ε G) w
    | false => False
  | .exit id, Q, D, ε, w => Q (.exit id) D ε w
  | .ret, Q, D, ε, w => Q .ret D ε w
  | _, _, _, _, _ => False

/-! ### sound -/
def Agr (n : Nat) (D : Ds) (a : Act) (ε : Env) : Prop := a.tmps.size = n ∧ ∀ t, D.elem t = true → a.tmps.getD t undef = ε t
theorem upd_apply (d : Nat) (v : Value) (ε : Env) (t : Nat) : upd d v ε t = if t = d then v else ε t := by
  unfold upd
  by_cases h : t = d
  · subst h; simp [Nat.beq_refl]
  · have : Nat.beq t d = false := Bool.eq_false_iff.2 fun e => h (Nat.eq_of_beq_eq_true e)
    simp [this, h]
theorem Agr.ev {n : Nat} {D : Ds} {a : Act} {ε : Env} (h : Agr n D a ε) (x : Operand) (hx : rd D x = true) : a.eval x = Sh.ev ε x := by
  cases x with
  | tmp t => exact h.2 t hx
  | _ => rfl
theorem Agr.put {n : Nat} {D : Ds} {a : Act} {ε : Env} (h : Agr n D a ε) (d : Option Tmp) (hd : ∀ t, d = some t → t < n) (v : Value) : Agr n (putD d D) (a.put d v) (Sh.put d v ε) := by
  cases d with
  | none => exact h
  | some d =>
    have hd := hd d rfl
    refine ⟨by simp [Act.put, h.1], fun t ht => ?_⟩
    simp only [Act.put, Sh.put, upd_apply]
    by_cases e : t = d
    · subst e; simp [h.1, hd]
    · have ht' : D.elem t = true := by
        simp only [putD, List.elem_eq_mem, List.mem_cons, decide_eq_true_eq] at ht ⊢
        exact ht.resolve_left e
      have h2 := h.2 t ht'
      rw [if_neg e, ← h2]
      simp [Array.getElem?_setIfInBounds_ne (Ne.symm e)]
theorem keep_apply (ε : Env) : ∀ (G : Ds) (t : Nat), G.elem t = true → keep ε G t = ε t
  | [], t, h => by simp at h
  | g :: G, t, h => by
    simp only [keep, upd_apply]
    by_cases e : t = g
    · rw [if_pos e, e]
    · rw [if_neg e]
      refine keep_apply ε G t ?_
      simp only [List.elem_eq_mem, List.mem_cons, decide_eq_true_eq] at h ⊢
      exact h.resolve_left e
theorem sub_elem {G D : Ds} (h : sub G D = true) (t : Nat) (ht : G.elem t = true) : D.elem t = true :=
  List.all_eq_true.1 h t (by simpa using ht)
theorem Agr.keep {n : Nat} {D : Ds} {a : Act} {ε : Env} (h : Agr n D a ε) {G : Ds} (hs : sub G D = true) : Agr n G a (Sh.keep ε G) :=
  ⟨h.1, fun t ht => by rw [keep_apply ε G t ht]; exact h.2 t (sub_elem hs t ht)⟩
/-- every slot that is written lies in the frame -/
def dstOk (n : Nat) (o : Oper) : Bool := match o.dst with | some d => Nat.blt d n | none => true
def codeOk (n : Nat) : Code → Bool
  | .region _ ops _ => ops.toList.all (dstOk n) && Region.noSelect ops
  | .seq x y | .cond _ x y => codeOk n x && codeOk n y
  | .block _ c | .loop c | .scope c => codeOk n c
  | _ => true
theorem dstOk_spec {n : Nat} {o : Oper} (h : dstOk n o = true) : ∀ t, o.dst = some t → t < n := by
  intro t ht
  simp only [dstOk, ht, Nat.blt] at h
  exact Nat.le_of_ble_eq_true h

/-- the real post that stands for Q -/
def Real (n : Nat) (Q : QE) (ds : List Deferred) : Exit → Act → World → Prop := fun e a w => a.defers = ds ∧ ∃ D ε, Agr n D a ε ∧ Q e D ε w
/-- a post that does not look at the frame where there is a panic -/
def NoLook (Q : QE) : Prop := ∀ c D ε D' ε' w, Q (.panic c) D ε w → Q (.panic c) D' ε' w
theorem NoLook.thn {Q : QE} (h : NoLook Q) (K : KE) : NoLook (thn K Q) := fun c D ε D' ε' w hq => h c D ε D' ε' w hq
theorem NoLook.blk {Q : QE} (h : NoLook Q) (id : Nat) : NoLook (blk id Q) := fun c D ε D' ε' w hq => h c D ε D' ε' w hq

theorem wanted_none {o : Oper} (h : o.guard = none) (y : Nat → Option Bool) : Region.wanted o y = true := by simp [Region.wanted, h]
theorem wanted_some {o : Oper} {j : Nat} {b : Bool} (h : o.guard = some (j, b)) (y : Nat → Option Bool) : Region.wanted o y = (y j == some b) := by simp [Region.wanted, h]

theorem exec_eq {n : Nat} {D : Ds} {a : Act} {ε : Env} {ops : Array Oper} {o : Oper} (ha : Agr n D a ε) (hsel : ∀ cs b, o.op ≠ .select cs b) (hr : rds D ops o = true) : execOp a.eval o = execOp (ev ε) o := by
  simp only [rds, Bool.and_eq_true] at hr
  exact execOp_congr o hsel fun x hx => ha.ev x (List.all_eq_true.1 hr.1 x (by simpa using hx))

theorem yielded_eq {n : Nat} {D : Ds} {a : Act} {ε : Env} (ha : Agr n D a ε) (ops : Array Oper) (hops : ∀ o ∈ ops.toList, dstOk n o = true) {o : Oper} {j : Nat} {b : Bool} (hg : o.guard = some (j, b))
    (hr : rds D ops o = true) : yielded ops a.tmps j = match gv ops ε j with | .bool b => some b | _ => none := by
  simp only [rds, hg, Bool.and_eq_true] at hr
  have hr := hr.2
  unfold yielded gv
  cases ho : ops[j]? with
  | none => simp [undef]
  | some o =>
    have hm := hops o (by simpa using Array.mem_of_getElem? ho)
    simp only [ho] at hr
    cases hd : o.dst with
    | none => simp [hd, undef]
    | some d =>
      simp only [hd] at hr
      have hdn := dstOk_spec hm d hd
      have h2 := ha.2 d hr
      have hlt : d < a.tmps.size := by rw [ha.1]; exact hdn
      have he : a.tmps[d]? = some (ε d) := by
        rw [← h2]; simp [hlt]
      simp only [Option.bind_some, hd, he]
      split <;> simp_all

theorem upon_real {P : Program} {o : Oper} {a : Act} {n : Nat} {D : Ds} {ε : Env} {Q : QE} {ds : List Deferred} (hn : NoLook Q) (ha : Agr n D a ε) (hds : a.defers = ds)
    {K : K0} {Kr : Act → World → Prop} (hK : ∀ v w, K v w → Kr (a.put o.dst v) w) {r : Result Next}
    (h : upon P K (fun ch w => Q (.panic ch) [] E0 w) r) : o.upon P a Kr (Real n Q ds) r := by
  cases r with
  | ok x w =>
    cases x <;> simp only [upon] at h <;> simp only [Oper.upon]
    case value v => exact hK _ _ h
    case skip => exact hK _ _ h
    case enter f args =>
      refine Calls.mono h fun e w' he => ?_
      cases e with
      | returned v => exact hK _ _ he
      | panicked ch => exact ⟨hds, D, ε, ha, hn _ _ _ _ _ _ he⟩
      | outgrown => exact he.elim
    all_goals exact h.elim
  | halt x w =>
    cases x <;> simp only [upon] at h <;> simp only [Oper.upon]
    case panic v => exact ⟨hds, D, ε, ha, hn _ _ _ _ _ _ h⟩
    all_goals exact h.elim

theorem put_defers (a : Act) (d : Option Tmp) (v : Value) : (a.put d v).defers = a.defers := by cases d <;> rfl

/-- one operation, in the base's word 'wpOp' -/
theorem opE_wpOp {P : Program} {ops : Array Oper} {i : Nat} {o : Oper} {n : Nat} {D : Ds} {a : Act} {ε : Env} {w : World} {Q : QE} {ds : List Deferred} (hn : NoLook Q)
    (hi : ops[i]? = some o) (hops : ∀ o ∈ ops.toList, dstOk n o = true) (hsel : Region.noSelect ops = true) (ha : Agr n D a ε) (hds : a.defers = ds)
    {K : KE} {Kr : Act → World → Prop} (hK : ∀ a' D' ε' w', Agr n D' a' ε' → a'.defers = ds → K D' ε' w' → Kr a' w')
    (h : opE P ops o D ε w (fun ch w => Q (.panic ch) [] E0 w) K) : wpOp P ops (Real n Q ds) i Kr a w := by
  have hd := dstOk_spec (hops o (by simpa using Array.mem_of_getElem? hi))
  have hput : ∀ v w', K (putD o.dst D) (put o.dst v ε) w' → Kr (a.put o.dst v) w' := fun v w' hk => hK _ _ _ _ (ha.put _ hd v) ((put_defers a _ v).trans hds) hk
  have hs := fun cs b => Region.noSelect_spec hsel i o cs b hi
  unfold opE at h
  cases hr : rds D ops o with
  | false => rw [hr] at h; exact h.elim
  | true =>
  rw [hr] at h
  have hex := exec_eq ha hs hr
  unfold wpOp
  simp only [hi]
  cases hg : o.guard with
  | none =>
    simp only [hg] at h
    simp only [wanted_none hg, if_true]
    refine .inl ?_
    unfold Oper.wp
    rw [hex]
    refine upon_real (K := fun v w' => K (putD o.dst D) (put o.dst v ε) w') hn ha hds (fun v w => hput v w) ?_
    split at h
    · rename_i x hx
      have : (execOp (ev ε) o).run P w = .ok (.value (ev ε x)) w := by simp only [execOp, hx]; rfl
      rw [this]; exact h
    · rename_i x hx
      have : (execOp (ev ε) o).run P w = .ok (.value (ev ε x)) w := by simp only [execOp, hx]; rfl
      rw [this]; exact h
    · exact h.out
  | some g =>
    obtain ⟨j, want⟩ := g
    simp only [hg] at h
    rw [wanted_some hg, yielded_eq ha ops hops hg hr]
    replace h := h.out
    split at h
    · rename_i b hb
      by_cases hbw : b = want
      · subst hbw
        simp only [beq_self_eq_true, cond_true] at h
        simp only [beq_self_eq_true, if_true]
        refine .inl ?_
        unfold Oper.wp
        rw [hex]
        exact upon_real hn ha hds (fun v w => hput v w) h.out
      · have e1 : (b == want) = false := by simpa using hbw
        have e2 : ((some b : Option Bool) == some want) = false := by simpa using hbw
        simp only [e1, cond_false] at h
        simp only [e2, Bool.false_eq_true, if_false]
        exact hput _ _ h
    · exact hput _ _ h

theorem regE_sound {P : Program} {ops : Array Oper} {n : Nat} {Q : QE} {ds : List Deferred} (hn : NoLook Q) (hops : ∀ o ∈ ops.toList, dstOk n o = true) (hsel : Region.noSelect ops = true) {K : KE} :
    ∀ (l : List Oper) (k : Nat), (∀ j, l[j]? = ops[k + j]?) → ∀ (a : Act) (D : Ds) (ε : Env) (w : World), Agr n D a ε → a.defers = ds →
      (∀ a' D' ε' w', Agr n D' a' ε' → a'.defers = ds → K D' ε' w' → Real n Q ds .normal a' w') →
      regE P ops (fun ch w => Q (.panic ch) [] E0 w) K l D ε w → wpOps P ops (Real n Q ds) (List.range' k l.length) a w
  | [], k, _, a, D, ε, w, ha, hds, hK, h => by simpa [wpOps] using hK a D ε w ha hds h
  | o :: rest, k, hl, a, D, ε, w, ha, hds, hK, h => by
    have h0 : ops[k]? = some o := by have := hl 0; simpa using this.symm
    simp only [List.length_cons, List.range'_succ]
    rw [wpOps_cons]
    refine opE_wpOp hn h0 hops hsel ha hds (fun a' D' ε' w' ha' hds' hk => ?_) h
    exact regE_sound hn hops hsel rest (k + 1) (fun j => by have := hl (j + 1); simp only [List.getElem?_cons_succ] at this; rw [this]; congr 1; omega) a' D' ε' w' ha' hds' hK hk

theorem range_eq (n : Nat) : List.range n = List.range' 0 n := List.range_eq_range'

theorem yieldsIf_of {P : Program} {H : World → Prop} {ops : Array Oper} {i : Nat} {o : Oper} {n : Nat} {D : Ds} {a : Act} {ε : Env} (hi : ops[i]? = some o) (hops : ∀ o ∈ ops.toList, dstOk n o = true)
    (hsel : Region.noSelect ops = true) (ha : Agr n D a ε) {K : Ds → Env → Prop} (h : opF P H ops o D ε K) : ∃ v, YieldsIf P ops H o v a ∧ K (putD o.dst D) (put o.dst v ε) := by
  have hs := fun cs b => Region.noSelect_spec hsel i o cs b hi
  unfold opF at h
  cases hr : rds D ops o with
  | false => rw [hr] at h; exact h.elim
  | true =>
  rw [hr] at h
  unfold YieldsIf
  rw [exec_eq ha hs hr]
  cases hg : o.guard with
  | none =>
    simp only [hg] at h
    simp only [wanted_none hg, Bool.true_eq_false, false_and, or_false, true_and]
    split at h
    · rename_i x hx
      exact ⟨_, fun w _ => by simp only [execOp, hx]; rfl, h⟩
    · rename_i x hx
      exact ⟨_, fun w _ => by simp only [execOp, hx]; rfl, h⟩
    · obtain ⟨v, h1, h2⟩ := h.out
      exact ⟨v, h1, h2⟩
  | some g =>
    obtain ⟨j, want⟩ := g
    simp only [hg] at h
    rw [wanted_some hg, yielded_eq ha ops hops hg hr]
    replace h := h.out
    split at h
    · rename_i b hb
      by_cases hbw : b = want
      · subst hbw
        simp only [beq_self_eq_true, cond_true] at h
        obtain ⟨v, h1, h2⟩ := h.out
        exact ⟨v, .inl ⟨by simp, h1⟩, h2⟩
      · have e1 : (b == want) = false := by simpa using hbw
        simp only [e1, cond_false] at h
        exact ⟨undef, .inr ⟨by simpa using hbw, rfl⟩, h⟩
    · exact ⟨undef, .inr ⟨by simp, rfl⟩, h⟩

theorem allE_all {X : Nat → Prop} : ∀ {l : List Nat}, allE X l → ∀ i ∈ l, X i
  | [], _, i, hi => by cases hi
  | [j], h, i, hi => by simp at hi; subst hi; exact h
  | j :: k :: l, h, i, hi => by
    rcases List.mem_cons.1 hi with rfl | hi
    · exact h.1
    · exact allE_all h.2 i hi

theorem NoLook.real {Q : QE} (h : NoLook Q) {n : Nat} {ds : List Deferred} (c : List PanicEntry) (a : Act) (w : World) (d : Option Tmp) (v : Value) :
    Real n Q ds (.panic c) (a.put d v) w → Real n Q ds (.panic c) a w := by
  rintro ⟨h1, D, ε, h2, h3⟩
  refine ⟨by rw [← h1]; cases d <;> rfl, [], E0, ⟨?_, fun t ht => by simp at ht⟩, h _ _ _ _ _ _ h3⟩
  rw [← h2.1]; cases d <;> simp [Act.put]

/-- whatever order is picked from here on; S holds behind each operation, till one comes that waits for all ahead of it -/
def anyB (P : Program) (ops : Array Oper) (Q : Exit → Act → World → Prop) (H : World → Prop) : Nat → Array Bool → Act → World → Prop
  | 0, listed, a, w => Region.ready .any ops listed = [] ∧ Q .normal a w
  | fuel + 1, listed, a, w =>
    (Region.ready .any ops listed = [] → Q .normal a w) ∧
    ∀ i ∈ Region.ready .any ops listed, wpOp P ops Q i (fun a' w' => (bar ops listed i = true ∧ wpAny P .any ops Q fuel (listed.setIfInBounds i true) a' w') ∨ (H w' ∧ anyB P ops Q H fuel (listed.setIfInBounds i true) a' w')) a w
theorem anyB_any {P : Program} {ops : Array Oper} {Q : Exit → Act → World → Prop} {H : World → Prop} : ∀ (fuel : Nat) (listed : Array Bool) (a : Act) (w : World), anyB P ops Q H fuel listed a w → wpAny P .any ops Q fuel listed a w
  | 0, _, _, _, h => h
  | fuel + 1, _, _, _, h => ⟨h.1, fun i hi => wpOp_mono (fun a' w' h' => h'.elim (·.2) fun h' => anyB_any fuel _ a' w' h'.2) (h.2 i hi)⟩
/-- what has come up had all it waits for ahead of it -/
def Closed (ops : Array Oper) (listed : Array Bool) : Prop := ∀ (k : Nat) (o : Oper), ops[k]? = some o → listed.getD k false = true → ∀ e ∈ o.after, Region.binds .any e = true → listed.getD e.on false = true
theorem waits_spec {ops : Array Oper} {listed : Array Bool} (hc : Closed ops listed) : ∀ (n i j : Nat), waits ops n i j = true → (∀ o, ops[i]? = some o → ∀ e ∈ o.after, Region.binds .any e = true → listed.getD e.on false = true) → listed.getD j false = true
  | 0, i, j, h, _ => by cases h
  | n + 1, i, j, h, hp => by
    unfold waits at h
    split at h
    · rename_i o ho
      rcases Bool.or_eq_true_iff.1 h with h | h
      · obtain ⟨e, he, hb⟩ := Array.any_eq_true'.1 h
        simp only [Bool.and_eq_true, beq_iff_eq] at hb
        rw [← hb.2]
        exact hp o ho e he hb.1
      · obtain ⟨e, he, hb⟩ := Array.any_eq_true'.1 h
        simp only [Bool.and_eq_true] at hb
        exact waits_spec hc n e.on j hb.2 fun o' ho' e' he' hb' => hc e.on o' ho' (hp o ho e he hb.1) e' he' hb'
    · cases h
theorem Closed.set {ops : Array Oper} {listed : Array Bool} (hc : Closed ops listed) {i : Nat} (hi : i ∈ Region.ready .any ops listed) : Closed ops (listed.setIfInBounds i true) := by
  obtain ⟨hun, oi, hoi, hall⟩ := mem_ready.1 hi
  have up : ∀ k, listed.getD k false = true → (listed.setIfInBounds i true).getD k false = true := fun k hk => by
    by_cases e : i = k
    · subst e
      have : i < listed.size := by
        rcases Nat.lt_or_ge i listed.size with h | h
        · exact h
        · simp [Array.getElem?_eq_none h] at hk
      simp [this]
    · rw [getD_set_ne false e]; exact hk
  intro k o ho hk e he hb
  by_cases e' : i = k
  · subst e'
    rw [hoi] at ho; cases ho
    exact up _ (hall e he hb)
  · rw [getD_set_ne false e'] at hk
    exact up _ (hc k o ho hk e he hb)
theorem Closed.none (ops : Array Oper) (n : Nat) : Closed ops (Array.replicate n false) := fun k o _ hk => by
  simp only [Array.getD_eq_getD_getElem?, Array.getElem?_replicate] at hk
  split at hk <;> cases hk
theorem bar_spec {ops : Array Oper} {listed : Array Bool} {i j : Nat} (h : bar ops listed i = true) (hj : listed.getD j false = true) (hlt : j < ops.size) : waits ops 3 i j = true := by
  have := List.all_eq_true.1 h j (by simpa using hlt)
  rw [hj] at this
  simpa using this
theorem anyB_first {P : Program} {ops : Array Oper} {Q : Exit → Act → World → Prop} {H : World → Prop} {i : Nat} {oi : Oper} {v : Value} (hi : ops[i]? = some oi) (hsel : ∀ (j : Nat) (o : Oper) cs b, ops[j]? = some o → o.op ≠ .select cs b)
    (hQ : ∀ c a w, Q (.panic c) (a.put oi.dst v) w → Q (.panic c) a w) :
    ∀ (fuel : Nat) (listed : Array Bool) (a : Act) (w : World), listed.size = ops.size → Closed ops listed →
      (∀ j oj, ops[j]? = some oj → j ≠ i → listed.getD j true = false → (∀ e ∈ oj.after, Region.binds .any e = true → e.on ≠ i) → oi.apart ops oj = true) →
      i ∈ Region.ready .any ops listed → YieldsIf P ops H oi v a → H w →
      anyB P ops Q H fuel (listed.setIfInBounds i true) (a.put oi.dst v) w → anyB P ops Q H (fuel + 1) listed a w := by
  intro fuel
  induction fuel with
  | zero =>
    intro listed a w _ _ _ hr hy hS hH
    refine ⟨fun h => (by rw [h] at hr; cases hr), fun j hj => ?_⟩
    by_cases hji : j = i
    · subst hji; exact hy.wpOp hi hS (.inr ⟨hS, hH⟩)
    · have := ready_mono hj hji
      rw [hH.1] at this
      cases this
  | succ fuel ih =>
    intro listed a w hsz hcl hfree hr hy hS hH
    refine ⟨fun h => (by rw [h] at hr; cases hr), fun j hj => ?_⟩
    by_cases hji : j = i
    · subst hji; exact hy.wpOp hi hS (.inr ⟨hS, hH⟩)
    · have h1 := hH.2 j (ready_mono hj hji)
      obtain ⟨hjun, oj, hoj, hall⟩ := mem_ready.1 hj
      have hlt : i < ops.size := (Array.getElem?_eq_some_iff.1 hi).1
      have hnot : ∀ e ∈ oj.after, Region.binds .any e = true → e.on ≠ i := fun e he hb heq => by
        have h1 := hall e he hb
        have h0 := (mem_ready.1 hr).1
        rw [heq] at h1
        rcases Nat.lt_or_ge i listed.size with h' | h'
        · simp [h'] at h0 h1; rw [h0] at h1; cases h1
        · simp [Array.getElem?_eq_none h'] at h1
      have hnb : bar ops (listed.setIfInBounds i true) j = true → False := fun hb => by
        have hw := bar_spec hb (j := i) (by simp [hsz, hlt]) hlt
        have := waits_spec hcl 3 j i hw fun o ho e he hbe => by rw [hoj] at ho; cases ho; exact hall e he hbe
        have h0 := (mem_ready.1 hr).1
        simp [hsz, hlt] at h0 this
        rw [h0] at this
        cases this
      have h2 := wpOp_putIf hoj (hfree j oj hoj hji hjun hnot) (fun cs b => hsel i oi cs b hi) (fun cs b => hsel j oj cs b hoj) hQ hy h1
      have hfree' : ∀ k ok, ops[k]? = some ok → k ≠ i → (listed.setIfInBounds j true).getD k true = false →
          (∀ e ∈ ok.after, Region.binds .any e = true → e.on ≠ i) → oi.apart ops ok = true := fun k ok hk hki hun hno => by
        refine hfree k ok hk hki ?_ hno
        by_cases hjk : j = k
        · subst hjk; exact hjun
        · rw [getD_set_ne true hjk] at hun; exact hun
      refine wpOp_mono (fun a' w' h3 => ?_) h2
      rcases h3.2 with hb | h4
      · exact (hnb hb.1).elim
      · refine .inr ⟨h4.1, ih (listed.setIfInBounds j true) a' w' (by simpa using hsz) (hcl.set hj) hfree' (ready_mono hr (Ne.symm hji)) h3.1 h4.1 ?_⟩
        rw [Array.setIfInBounds_comm _ _ hji]
        exact h4.2
theorem anyB_done {P : Program} {ops : Array Oper} {Q : Exit → Act → World → Prop} {H : World → Prop} {listed : Array Bool} {a : Act} {w : World} (hr : Region.ready .any ops listed = []) (h : Q .normal a w) :
    ∀ fuel, anyB P ops Q H fuel listed a w
  | 0 => ⟨hr, h⟩
  | _ + 1 => ⟨fun _ => h, by rw [hr]; simp⟩

theorem drawE_sound {P : Program} {ops : Array Oper} {n : Nat} {Q : QE} {ds : List Deferred} (hops : ∀ o ∈ ops.toList, dstOk n o = true) (hsel : Region.noSelect ops = true)
    (hn : NoLook Q) {K : KE} (hK : ∀ a' D' ε' w', Agr n D' a' ε' → a'.defers = ds → K D' ε' w' → Real n Q ds .normal a' w') :
    ∀ (fuel : Nat) (H : World → Prop) (listed : Array Bool) (a : Act) (D : Ds) (ε : Env) (w : World), listed.size = ops.size → Closed ops listed → Agr n D a ε → a.defers = ds → H w →
      drawE P ops (fun ch w => Q (.panic ch) [] E0 w) K fuel H listed D ε w → anyB P ops (Real n Q ds) H fuel listed a w := by
  intro fuel
  induction fuel with
  | zero =>
    intro H listed a D ε w _ _ ha hds hH h
    unfold drawE at h
    split at h
    · rename_i hr
      exact ⟨hr, hK a D ε w ha hds h⟩
    · exact h.elim
  | succ fuel ih =>
    intro H listed a D ε w hsz hcl ha hds hH h
    unfold drawE at h
    split at h
    · rename_i hr
      exact anyB_done hr (hK a D ε w ha hds h) _
    · rename_i r rs hr
      split at h
      · rename_i i hfind
        have hmem := List.mem_of_find?_eq_some hfind
        have hfl := List.find?_some hfind
        split at h
        · rename_i o ho
          obtain ⟨v, hy, hk⟩ := yieldsIf_of ho hops hsel ha h
          have hd := dstOk_spec (hops o (by simpa using Array.mem_of_getElem? ho))
          simp only [flAt, Bool.and_eq_true] at hfl
          exact anyB_first ho (Region.noSelect_spec hsel) (fun c a w => hn.real c a w _ _) fuel listed a w hsz hcl (Region.free_spec ho hfl.2) (by rw [hr]; exact hmem) hy hH
            (ih _ _ _ _ _ _ (by simpa using hsz) (hcl.set (by rw [hr]; exact hmem)) (ha.put _ hd v) ((put_defers a _ v).trans hds) hH hk)
        · exact h.elim
      · refine ⟨fun h0 => (by rw [hr] at h0; cases h0), fun i hi => ?_⟩
        rw [hr] at hi
        have hx := allE_all h i hi
        split at hx
        · rename_i o ho
          refine opE_wpOp (Q := Q) (ds := ds) hn ho hops hsel ha hds ?_ hx
          intro a' D' ε' w' ha' hds' hk
          split at hk
          · rename_i hb
            refine .inl ⟨hb, ?_⟩
            split at hk
            · rename_i hr'
              exact anyB_any (H := H) _ _ _ _ (anyB_done hr' (hK a' D' ε' w' ha' hds' hk) _)
            · obtain ⟨H', hH', hk⟩ := hk
              exact anyB_any (H := H') _ _ _ _ (ih H' _ a' D' ε' w' (by simpa using hsz) (hcl.set (by rw [hr]; exact hi)) ha' hds' hH' hk)
          · exact .inr ⟨hk.1, ih _ _ a' D' ε' w' (by simpa using hsz) (hcl.set (by rw [hr]; exact hi)) ha' hds' hk.1 hk.2⟩
        · exact hx.elim

theorem Real.thn_imp {n : Nat} {K : KE} {Q : QE} {ds : List Deferred} {X : Act → World → Prop} (hX : ∀ a D ε w, Agr n D a ε → a.defers = ds → K D ε w → X a w) :
    ∀ e a w, Real n (thn K Q) ds e a w → Exit.then X (Real n Q ds) e a w := by
  rintro e a w ⟨hds, D, ε, ha, hq⟩
  cases e <;> first
    | exact hX a D ε w ha hds hq
    | exact ⟨hds, D, ε, ha, hq⟩

theorem jn_imp {n : Nat} {G : Ds} {k : Env → World → Prop} {a : Act} {D : Ds} {ε : Env} {w : World} (ha : Agr n D a ε) (h : jn G k D ε w) : Agr n G a (keep ε G) ∧ k (keep ε G) w := by
  unfold jn at h
  cases hs : sub G D with
  | false => rw [hs] at h; exact h.elim
  | true => rw [hs] at h; exact ⟨ha.keep hs, h⟩

theorem wpE_sound {P : Program} (hm : P.follows .mixedOrders = true) {n : Nat} {G : Ds} {ds : List Deferred} : ∀ (c : Code) (Q : QE), NoLook Q → codeOk n c = true → ∀ (a : Act) (D : Ds) (ε : Env) (w : World),
    Agr n D a ε → a.defers = ds → wpE P G c Q D ε w → c.wp P (Real n Q ds) a w
  | .skip, Q, _, _, a, D, ε, w, ha, hds, h => wp_skip ⟨hds, D, ε, ha, h⟩
  | .label l, Q, _, _, a, D, ε, w, ha, hds, h => wp_label ⟨hds, D, ε, ha, h⟩
  | .exit id, Q, _, _, a, D, ε, w, ha, hds, h => wp_exit ⟨hds, D, ε, ha, h⟩
  | .ret, Q, _, _, a, D, ε, w, ha, hds, h => wp_ret ⟨hds, D, ε, ha, h⟩
  | .region id ops false, Q, hn, hc, a, D, ε, w, ha, hds, h => by
    simp only [codeOk, Bool.and_eq_true] at hc
    refine wp_region ?_
    have := regE_sound (P := P) (ops := ops) (n := n) (Q := Q) (ds := ds) hn (List.all_eq_true.1 hc.1) hc.2 (K := fun D ε w => Q .normal D ε w) ops.toList 0 (by simp) a D ε w ha hds
      (fun a' D' ε' w' ha' hds' hk => ⟨hds', D', ε', ha', hk⟩) h
    rw [range_eq]
    simpa using this
  | .region id ops true, Q, hn, hc, a, D, ε, w, ha, hds, h => by
    simp only [codeOk, Bool.and_eq_true] at hc
    obtain ⟨H, hH, h⟩ := h
    exact wp_region_any hm (anyB_any (H := H) _ _ _ _ (drawE_sound (P := P) (ops := ops) (n := n) (Q := Q) (ds := ds) (List.all_eq_true.1 hc.1) hc.2 hn (K := fun D ε w => Q .normal D ε w)
      (fun a' D' ε' w' ha' hds' hk => ⟨hds', D', ε', ha', hk⟩) ops.size H (Array.replicate ops.size false) a D ε (drewW w) (by simp) (Closed.none _ _) ha hds hH h))
  | .seq x y, Q, hn, hc, a, D, ε, w, ha, hds, h => by
    simp only [codeOk, Bool.and_eq_true] at hc
    unfold wpE at h
    cases hx : straight x with
    | true =>
      rw [hx] at h
      refine wp_seq (wp_mono (wpE_sound hm x _ (hn.thn _) hc.1 a D ε w ha hds h) (Real.thn_imp fun a D ε w ha hds hk => ?_))
      exact wpE_sound hm y Q hn hc.2 a D ε w ha hds hk
    | false =>
      rw [hx] at h
      refine wp_seq (wp_mono (wpE_sound hm x _ (hn.thn _) hc.1 a D ε w ha hds h) (Real.thn_imp fun a D ε w ha hds hk => ?_))
      obtain ⟨ha', hk'⟩ := jn_imp ha hk
      exact wpE_sound hm y Q hn hc.2 a G _ w ha' hds hk'
  | .cond c x y, Q, hn, hc, a, D, ε, w, ha, hds, h => by
    simp only [codeOk, Bool.and_eq_true] at hc
    unfold wpE at h
    cases hr : rd D c with
    | false => rw [hr] at h; exact h.elim
    | true =>
    rw [hr] at h
    replace h := h.out
    split at h
    · rename_i b hb
      refine wp_cond (t := b) (by rw [ha.ev c hr]; exact hb) ?_
      cases b
      · exact wpE_sound hm y Q hn hc.2 a D ε w ha hds h
      · exact wpE_sound hm x Q hn hc.1 a D ε w ha hds h
    · exact h.elim
  | .block id c, Q, hn, hc, a, D, ε, w, ha, hds, h => by
    simp only [codeOk] at hc
    refine wp_block (wp_mono (wpE_sound hm c _ (hn.blk id) hc a D ε w ha hds h) ?_)
    rintro e a w ⟨hds, D, ε, ha, hq⟩
    cases e <;> first
      | exact ⟨hds, D, ε, ha, hq⟩
      | skip
    rename_i id'
    simp only [Exit.inBlock]
    by_cases hid : id' = id
    · subst hid
      simp only [blk, Nat.beq_refl] at hq
      rw [if_pos rfl]
      exact ⟨hds, D, ε, ha, hq⟩
    · have : Nat.beq id' id = false := Bool.eq_false_iff.2 fun e => hid (Nat.eq_of_beq_eq_true e)
      simp only [blk, this] at hq
      rw [if_neg hid]
      exact ⟨hds, D, ε, ha, hq⟩
  | .loop c, Q, hn, hc, a, D, ε, w, ha, hds, h => by
    simp only [codeOk] at hc
    unfold wpE at h
    cases hs : sub G D with
    | false => rw [hs] at h; exact h.elim
    | true =>
    rw [hs] at h
    obtain ⟨I, μ, h0, hround⟩ := h
    let f : Act → Env := fun a t => a.tmps.getD t undef
    have hfix : ∀ a : Act, a.tmps.size = n → Agr n G a (keep (f a) G) := fun a h => ⟨h, fun t ht => (keep_apply (f a) G t ht).symm⟩
    have huniq : ∀ (a : Act) (ε : Env) (D : Ds), Agr n D a ε → sub G D = true → keep ε G = keep (f a) G := by
      intro a ε D h hs
      have key : ∀ L : Ds, (∀ t, L.elem t = true → D.elem t = true) → keep ε L = keep (f a) L := by
        intro L
        induction L with
        | nil => intro _; rfl
        | cons t L ih =>
          intro hL
          simp only [keep]
          rw [ih fun u hu => hL u (by simp only [List.elem_eq_mem, List.mem_cons, decide_eq_true_eq] at hu ⊢; exact .inr hu)]
          rw [← h.2 t (hL t (by simp))]
      exact key G fun t ht => sub_elem hs t ht
    refine wp_loop (fun a w => a.tmps.size = n ∧ a.defers = ds ∧ I (keep (f a) G) w) (fun a w => μ (keep (f a) G) w) ⟨ha.1, hds, by rw [← huniq a ε D ha hs]; exact h0⟩ ?_
    rintro a w ⟨hsz, hds, hI⟩
    refine wp_mono (wpE_sound hm c _ (hn.thn _) hc a G _ w (hfix a hsz) hds (hround _ w hI)) (Real.thn_imp fun a' D' ε' w' ha' hds' hk => ?_)
    unfold jn at hk
    cases hs' : sub G D' with
    | false => rw [hs'] at hk; exact hk.elim
    | true =>
    rw [hs'] at hk
    simp only [] at hk
    rw [huniq a' ε' D' ha' hs'] at hk
    exact ⟨⟨ha'.1, hds', hk.1⟩, hk.2⟩
  | .rangeFunc .., Q, _, _, a, D, ε, w, _, _, h => h.elim
  | .scope _, Q, _, _, a, D, ε, w, _, _, h => h.elim
  | .goto _, Q, _, _, a, D, ε, w, _, _, h => h.elim
  | .refuse _, Q, _, _, a, D, ε, w, _, _, h => h.elim
end Go.Sh
namespace Go.Sh

/-! ### words for operations -/
def cop (c : Bool) : Operand := cond c (.const undef) (.tmp 0)
/-- a value's operation -/
def vv (s : Sem Value) : Sem Next := do pure (.value (← s))
def o1 (op : Op) (x : Value) : Sem Next := execOp (fun _ => x) ⟨none, op, 0, "", #[], none⟩
def vmove (x : Value) : Sem Next := pure (.value x)
def vpick (c a b : Value) : Sem Next := do pure (.value (if ← asBool c then a else b))
def valloc (t : TypeId) : Sem Next := vv (Instr.alloc t true (.tuple #[]))
def vbox (t : TypeId) (x : Value) : Sem Next := vv (Instr.box t x)
def vbuild (t : TypeId) (ps : Array (Nat × Value)) : Sem Next := vv (Instr.build t ps)
def vbuildS (t : TypeId) (n : Nat) (ps : Array (Nat × Value)) : Sem Next := vv (Instr.buildSlice t n ps)
def vload (t : TypeId) (a : Value) : Sem Next := vv (Instr.loadAt t a)
def vstore (t : TypeId) (a x : Value) : Sem Next := do Instr.storeAt t a x; pure .skip
def vnil (x : Value) : Sem Next := o1 (.nilCheck (.tmp 0)) x
def vbin (op : BinOp) (t : TypeId) (cx cy : Bool) (x y : Value) : Sem Next := vv (do eqGuard op t (cop cx) (cop cy) x y; binOp op t x y)
def vun (op : UnOp) (x : Value) : Sem Next := vv (Op.unary op x)
def vconv (s d : TypeId) (x : Value) : Sem Next := vv (convert s d x)
def vmkI (t : TypeId) (x : Value) : Sem Next := vv (Instr.makeInterface t x)
def vmkF (fn : Fn) (first captured : Array Value) : Sem Next := vv (Instr.makeFunc fn first captured)
def vmkM (t : TypeId) (r : Option Value) : Sem Next := vv (Instr.makeMap t r)
def vmkS (t : TypeId) (l c : Value) : Sem Next := vv (Instr.makeSlice t l c)
def vslice (t : TypeId) (x : Value) (lo hi mx : Option Value) : Sem Next := vv (Instr.sliceAt t x lo hi mx)
def vfield (s : TypeId) (x : Value) (f : Nat) : Sem Next := vv (Instr.fieldAt s x f)
def vfld (t : TypeId) (x : Value) (f : Nat) : Sem Next := vv (Instr.field t x f)
def vixA (t : TypeId) (x i : Value) : Sem Next := vv (Instr.indexAt t x i)
def vix (t : TypeId) (x i : Value) : Sem Next := vv (Instr.index t x i)
def vlook (t : TypeId) (x i : Value) (ok : Bool) : Sem Next := vv (Instr.lookup t x i ok)
def vmupd (t : TypeId) (m k x : Value) : Sem Next := do Instr.mapUpdate t m k x; pure .skip
def vrange (t : TypeId) (x : Value) : Sem Next := vv (Instr.range t x)
def vnext (it : Value) (isString : Bool) (t : TypeId) : Sem Next := vv (Instr.next it isString t)
def vta (x : Value) (t asserted : TypeId) (ok : Bool) : Sem Next := vv (Instr.typeAssert x t asserted ok)
def vext (t : Value) (i : Nat) : Sem Next := vv (Instr.extract t i)
def vpanic (x : Value) : Sem Next := vv (Instr.panic x)
def vblt (b : Builtin) (argTypes : Array TypeId) (t : TypeId) (consts : Array Bool) (args : Array Value) : Sem Next := invoke (.builtin b argTypes t consts) args
def vcall (f : Value) (args : Array Value) : Sem Next := do let d ← Deferred.ofValue f args; invoke d.target d.args
/-- a result that lies in memory -/
structure RC (P : Program) (t : TypeId) (a : Value) (w : World) (K : Value → Prop) : Prop where
  out : ∃ v, (do loadVar t (← asAddr a) : Sem Value).run P w = .ok v w ∧ K v

def ε0 (args : Array Value) : Env := fun t => args.getD t undef
def one (vs : List Value) : Value := match vs with | [v] => v | vs => .tuple vs.toArray
/-- what a function hands back -/
def RetL (P : Program) (ε : Env) (w : World) (K : K0) : List ResultVar → List Value → Prop
  | [], acc => K (one acc.reverse) w
  | .tmp t :: rs, acc => RetL P ε w K rs (ε t :: acc)
  | .cell a t :: rs, acc => RC P t (ε a) w fun v => RetL P ε w K rs (v :: acc)
def resOk (D : Ds) : ResultVar → Bool
  | .tmp t => D.elem t
  | .cell a _ => D.elem a
def postE (P : Program) (rs : List ResultVar) (Kp : KP) (K : K0) : QE
  | .normal, D, ε, w | .ret, D, ε, w => match rs.all (resOk D) with | true => RetL P ε w K rs [] | false => False
  | .panic ch, _, _, w => Kp ch w
  | _, _, _, _ => False
theorem postE_noLook (P : Program) (rs : List ResultVar) (Kp : KP) (K : K0) : NoLook (postE P rs Kp K) := fun _ _ _ _ _ _ h => h

theorem retL_run (P : Program) (D : Ds) (ε : Env) (tmps : Array Value) (ht : ∀ t, D.elem t = true → tmps.getD t undef = ε t) (w : World) (K : K0) : ∀ (rs : List ResultVar) (acc : List Value), rs.all (resOk D) = true → RetL P ε w K rs acc →
    ∃ vs, (rs.mapM (fun | .tmp t => pure (tmps.getD t undef) | .cell a t => do loadVar t (← asAddr (tmps.getD a undef))) : Sem (List Value)).run P w = .ok vs w ∧ K (one (acc.reverse ++ vs)) w
  | [], acc, _, h => ⟨[], rfl, by rw [List.append_nil]; exact h⟩
  | .tmp t :: rs, acc, hr, h => by
    simp only [List.all_cons, Bool.and_eq_true] at hr
    obtain ⟨vs, h1, h2⟩ := retL_run P D ε tmps ht w K rs _ hr.2 h
    refine ⟨ε t :: vs, ?_, by simpa using h2⟩
    simp only [List.mapM_cons]
    rw [ht t hr.1, Sem.run_bind]
    simp only [Sem.run_pure, Result.andThen]
    rw [Sem.run_bind, h1]
    rfl
  | .cell a t :: rs, acc, hr, h => by
    simp only [List.all_cons, Bool.and_eq_true] at hr
    obtain ⟨v, hv, h⟩ := h.out
    obtain ⟨vs, h1, h2⟩ := retL_run P D ε tmps ht w K rs _ hr.2 h
    refine ⟨v :: vs, ?_, by simpa using h2⟩
    simp only [List.mapM_cons]
    rw [ht a hr.1]
    rw [Sem.run_bind, hv]
    simp only [Result.andThen]
    rw [Sem.run_bind, h1]
    rfl

theorem calls_of {P : Program} (hm : P.follows .mixedOrders = true) (G : Ds) {f : FuncId} {fn : Func} {c : Code} {args : Array Value} {w : World} {Kp : KP} {K : K0}
    (hf : P.funcs[f]? = some fn) (hb : fn.body = some c) (hok : codeOk fn.ntmps c = true) (hargs : Nat.ble args.size fn.ntmps = true)
    (h : wpE P G c (postE P fn.results.toList Kp K) (List.range args.size ++ G) (ε0 args) w) : Calls P f args w (EndsS Kp K) := by
  refine calls_of_wp hf hb (wp_mono (wpE_sound hm c _ (postE_noLook P fn.results.toList Kp K) hok _ _ _ w (n := fn.ntmps) (ds := []) ⟨by have := Nat.le_of_ble_eq_true hargs; simp; omega, fun t _ => ?_⟩ rfl h) ?_)
  · show (args ++ Array.replicate (fn.ntmps - args.size) undef).getD t undef = args.getD t undef
    simp only [Array.getD_eq_getD_getElem?, Array.getElem?_append, Array.getElem?_replicate]
    split
    · rfl
    · rename_i hlt
      rw [Array.getElem?_eq_none (by omega)]
      split <;> rfl
  · have key : ∀ (a : Act) (D : Ds) (ε : Env) (w : World), Agr fn.ntmps D a ε → (match fn.results.toList.all (resOk D) with | true => RetL P ε w K fn.results.toList [] | false => False) → ∃ v, (results fn a.tmps).run P w = .ok v w ∧ K v w := by
      intro a D ε w ha hr
      cases hall : fn.results.toList.all (resOk D) with
      | false => rw [hall] at hr; exact hr.elim
      | true =>
      rw [hall] at hr
      obtain ⟨vs, h1, h2⟩ := retL_run P D ε a.tmps ha.2 w K _ _ hall hr
      refine ⟨one vs, ?_, by simpa using h2⟩
      have e : fn.results = fn.results.toList.toArray := rfl
      unfold results
      rw [Sem.run_bind, e, List.mapM_toArray, Sem.run_map]
      refine Eq.trans (congrArg (fun r => ((r : Result (List Value)).andThen _).andThen _) h1) ?_
      simp only [Result.andThen]
      show Result.ok _ w = _
      congr 1
      unfold one
      match vs with
      | [] => rfl
      | [v] => rfl
      | a :: b :: c => simp
    rintro e a w ⟨hds, D, ε, ha, hq⟩
    cases e with
    | normal => obtain ⟨v, h1, h2⟩ := key a D ε w ha hq; exact ⟨hds, v, h1, h2⟩
    | ret => obtain ⟨v, h1, h2⟩ := key a D ε w ha hq; exact ⟨hds, v, h1, h2⟩
    | panic ch => exact ⟨hds, hq⟩
    | exit id => exact hq.elim
    | goto l => exact hq.elim
    | outgrown => exact hq.elim
end Go.Sh
namespace Go.Sh
open Go.RowKit (Below)

abbrev ptr (b o : Nat) : Value := .pointer (some ⟨b, o, none⟩)
abbrev nilp : Value := .pointer none
abbrev i64 (n : Int) : Value := .int .i64 n
abbrev u16 (n : Int) : Value := .int .u16 n
abbrev u8 (n : Int) : Value := .int .u8 n
abbrev sl (b o n c : Nat) : Value := .slice (some ⟨b, o, none⟩) n c

/-- the outcome is this value, in whatever world -/
structure R (P : Program) (s : Sem Next) (v : Value) : Prop where
  run : ∀ w, s.run P w = .ok (.value v) w
section
variable {P : Program} {s : Sem Next} {v u : Value} {w w' : World} {Kp : KP} {K : K0} {H : World → Prop} {X : Value → Prop}
theorem S_run (h : s.run P w = .ok (.value v) w') (k : K v w') : S P s w Kp K := ⟨by rw [h]; exact k⟩
theorem S_skip (h : s.run P w = .ok .skip w') (k : K undef w') : S P s w Kp K := ⟨by rw [h]; exact k⟩
theorem S_R (h : R P s v) (k : K v w) : S P s w Kp K := S_run (h.run w) k
theorem Fl_R (h : R P s v) (k : X v) : Fl P H s X := ⟨v, fun w _ => h.run w, k⟩
theorem Fl_run (h : ∀ w, H w → s.run P w = .ok (.value v) w) (k : X v) : Fl P H s X := ⟨v, h, k⟩
theorem GS_t (k : S P s w Kp K) : GS (.bool true) true P s w Kp K := ⟨k⟩
theorem GS_f (k : K undef w) : GS (.bool false) true P s w Kp K := ⟨k⟩
theorem GS_t' (k : K undef w) : GS (.bool true) false P s w Kp K := ⟨k⟩
theorem GS_f' (k : S P s w Kp K) : GS (.bool false) false P s w Kp K := ⟨k⟩
theorem GF_t (k : Fl P H s X) : GF (.bool true) true P H s X := ⟨k⟩
theorem GF_f (k : X undef) : GF (.bool false) true P H s X := ⟨k⟩
theorem GF_t' (k : X undef) : GF (.bool true) false P H s X := ⟨k⟩
theorem GF_f' (k : Fl P H s X) : GF (.bool false) false P H s X := ⟨k⟩
theorem C_t {A B : Prop} (k : A) : C (.bool true) A B := ⟨k⟩
theorem C_f {A B : Prop} (k : B) : C (.bool false) A B := ⟨k⟩
/-- a test by a Bool that is not known -/
theorem C_b {b : Bool} {A B : Prop} (h1 : b = true → A) (h2 : b = false → B) : C (.bool b) A B := by cases b; exact ⟨h2 rfl⟩; exact ⟨h1 rfl⟩

theorem R_vv {s : Sem Value} {v : Value} (h : ∀ w, s.run P w = .ok v w) : R P (vv s) v := ⟨fun w => by
  unfold vv; rw [Sem.run_bind, h w]; rfl⟩
theorem run_vv {s : Sem Value} {v : Value} (h : s.run P w = .ok v w') : (vv s).run P w = .ok (.value v) w' := by
  unfold vv; rw [Sem.run_bind, h]; rfl
theorem R_move (x : Value) : R P (vmove x) x := ⟨fun _ => rfl⟩
theorem R_nil (a : Addr) : R P (vnil (.pointer (some a))) (.pointer (some a)) := ⟨fun _ => rfl⟩
theorem R_pick_t (x y : Value) : R P (vpick (.bool true) x y) x := ⟨fun _ => rfl⟩
theorem R_pick_f (x y : Value) : R P (vpick (.bool false) x y) y := ⟨fun _ => rfl⟩
theorem R_not (b : Bool) : R P (vun .not (.bool b)) (.bool (!b)) := ⟨fun _ => rfl⟩
theorem R_not_t : R P (vun .not (.bool true)) (.bool false) := ⟨fun _ => rfl⟩
theorem R_not_f : R P (vun .not (.bool false)) (.bool true) := ⟨fun _ => rfl⟩
theorem R_ext (vs : Array Value) (i : Nat) (v : Value) (h : vs[i]? = some v) : R P (vext (.tuple vs) i) v := R_vv fun w => by
  simp only [Instr.extract, h]; rfl
theorem R_ext20 (x y : Value) : R P (vext (.tuple #[x, y]) 0) x := R_ext _ _ _ rfl
theorem R_ext21 (x y : Value) : R P (vext (.tuple #[x, y]) 1) y := R_ext _ _ _ rfl
theorem R_ext30 (x y z : Value) : R P (vext (.tuple #[x, y, z]) 0) x := R_ext _ _ _ rfl
theorem R_ext31 (x y z : Value) : R P (vext (.tuple #[x, y, z]) 1) y := R_ext _ _ _ rfl
theorem R_ext32 (x y z : Value) : R P (vext (.tuple #[x, y, z]) 2) z := R_ext _ _ _ rfl

/-! ### whole numbers -/
section
variable (k : IntKind) (t : TypeId) (cx cy : Bool) (a b : Int)
theorem R_add : R P (vbin .add t cx cy (.int k a) (.int k b)) (.int k (k.wrap (a + b))) := by cases k <;> exact ⟨fun _ => rfl⟩
theorem R_sub : R P (vbin .sub t cx cy (.int k a) (.int k b)) (.int k (k.wrap (a - b))) := by cases k <;> exact ⟨fun _ => rfl⟩
theorem R_mul : R P (vbin .mul t cx cy (.int k a) (.int k b)) (.int k (k.wrap (a * b))) := by cases k <;> exact ⟨fun _ => rfl⟩
theorem R_eql : R P (vbin .eql t cx cy (.int k a) (.int k b)) (.bool (a == b)) := by cases k <;> exact ⟨fun _ => rfl⟩
theorem R_neq : R P (vbin .neq t cx cy (.int k a) (.int k b)) (.bool (a != b)) := by cases k <;> exact ⟨fun _ => rfl⟩
theorem R_lss : R P (vbin .lss t cx cy (.int k a) (.int k b)) (.bool (decide (a < b))) := by cases k <;> exact ⟨fun _ => rfl⟩
theorem R_leq : R P (vbin .leq t cx cy (.int k a) (.int k b)) (.bool (decide (a ≤ b))) := by cases k <;> exact ⟨fun _ => rfl⟩
theorem R_gtr : R P (vbin .gtr t cx cy (.int k a) (.int k b)) (.bool (decide (a > b))) := by cases k <;> exact ⟨fun _ => rfl⟩
theorem R_geq : R P (vbin .geq t cx cy (.int k a) (.int k b)) (.bool (decide (a ≥ b))) := by cases k <;> exact ⟨fun _ => rfl⟩
theorem R_quo (h : b ≠ 0) : R P (vbin .quo t cx cy (.int k a) (.int k b)) (.int k (k.wrap (a.tdiv b))) := by
  cases k <;> exact ⟨fun _ => by
    refine run_vv ?_
    simp [eqGuard, binOp, Op.intDiv, h, Sem.run_bind, Result.andThen]⟩
theorem R_rem (h : b ≠ 0) : R P (vbin .rem t cx cy (.int k a) (.int k b)) (.int k (a.tmod b)) := by
  cases k <;> exact ⟨fun _ => by
    refine run_vv ?_
    simp [eqGuard, binOp, Op.intDiv, h, Sem.run_bind, Result.andThen]⟩
end
theorem dec_split {p : Prop} [Decidable p] {X : Bool → Prop} (h1 : p → X true) (h2 : ¬ p → X false) : X (decide p) := by
  by_cases h : p
  · rw [decide_eq_true h]; exact h1 h
  · rw [decide_eq_false h]; exact h2 h
theorem beq_split {a b : Int} {X : Bool → Prop} (h1 : a = b → X true) (h2 : ¬ a = b → X false) : X (a == b) := by
  by_cases h : a = b
  · rw [show (a == b) = true by simpa using h]; exact h1 h
  · rw [show (a == b) = false by simpa using h]; exact h2 h
theorem bne_split {a b : Int} {X : Bool → Prop} (h1 : ¬ a = b → X true) (h2 : a = b → X false) : X (a != b) := by
  by_cases h : a = b
  · rw [show (a != b) = false by simpa using h]; exact h2 h
  · rw [show (a != b) = true by simpa using h]; exact h1 h
section
variable {k : IntKind} {t : TypeId} {cx cy : Bool} {a b : Int}
theorem S_eql (h1 : a = b → K (.bool true) w) (h2 : ¬ a = b → K (.bool false) w) : S P (vbin .eql t cx cy (.int k a) (.int k b)) w Kp K := S_R (R_eql ..) (beq_split (X := fun x => K (.bool x) w) h1 h2)
theorem S_neq (h1 : ¬ a = b → K (.bool true) w) (h2 : a = b → K (.bool false) w) : S P (vbin .neq t cx cy (.int k a) (.int k b)) w Kp K := S_R (R_neq ..) (bne_split (X := fun x => K (.bool x) w) h1 h2)
theorem S_lss (h1 : a < b → K (.bool true) w) (h2 : ¬ a < b → K (.bool false) w) : S P (vbin .lss t cx cy (.int k a) (.int k b)) w Kp K := S_R (R_lss ..) (dec_split (X := fun x => K (.bool x) w) h1 h2)
theorem S_leq (h1 : a ≤ b → K (.bool true) w) (h2 : ¬ a ≤ b → K (.bool false) w) : S P (vbin .leq t cx cy (.int k a) (.int k b)) w Kp K := S_R (R_leq ..) (dec_split (X := fun x => K (.bool x) w) h1 h2)
theorem S_gtr (h1 : b < a → K (.bool true) w) (h2 : ¬ b < a → K (.bool false) w) : S P (vbin .gtr t cx cy (.int k a) (.int k b)) w Kp K := S_R (R_gtr ..) (dec_split (X := fun x => K (.bool x) w) h1 h2)
theorem S_geq (h1 : b ≤ a → K (.bool true) w) (h2 : ¬ b ≤ a → K (.bool false) w) : S P (vbin .geq t cx cy (.int k a) (.int k b)) w Kp K := S_R (R_geq ..) (dec_split (X := fun x => K (.bool x) w) h1 h2)
theorem Fl_eql (h1 : a = b → X (.bool true)) (h2 : ¬ a = b → X (.bool false)) : Fl P H (vbin .eql t cx cy (.int k a) (.int k b)) X := Fl_R (R_eql ..) (beq_split (X := fun x => X (.bool x)) h1 h2)
theorem Fl_neq (h1 : ¬ a = b → X (.bool true)) (h2 : a = b → X (.bool false)) : Fl P H (vbin .neq t cx cy (.int k a) (.int k b)) X := Fl_R (R_neq ..) (bne_split (X := fun x => X (.bool x)) h1 h2)
theorem Fl_lss (h1 : a < b → X (.bool true)) (h2 : ¬ a < b → X (.bool false)) : Fl P H (vbin .lss t cx cy (.int k a) (.int k b)) X := Fl_R (R_lss ..) (dec_split (X := fun x => X (.bool x)) h1 h2)
theorem Fl_leq (h1 : a ≤ b → X (.bool true)) (h2 : ¬ a ≤ b → X (.bool false)) : Fl P H (vbin .leq t cx cy (.int k a) (.int k b)) X := Fl_R (R_leq ..) (dec_split (X := fun x => X (.bool x)) h1 h2)
theorem Fl_gtr (h1 : b < a → X (.bool true)) (h2 : ¬ b < a → X (.bool false)) : Fl P H (vbin .gtr t cx cy (.int k a) (.int k b)) X := Fl_R (R_gtr ..) (dec_split (X := fun x => X (.bool x)) h1 h2)
theorem Fl_geq (h1 : b ≤ a → X (.bool true)) (h2 : ¬ b ≤ a → X (.bool false)) : Fl P H (vbin .geq t cx cy (.int k a) (.int k b)) X := Fl_R (R_geq ..) (dec_split (X := fun x => X (.bool x)) h1 h2)
theorem S_eql_t (h : a = b) (k' : K (.bool true) w) : S P (vbin .eql t cx cy (.int k a) (.int k b)) w Kp K := S_eql (fun _ => k') (fun h' => absurd h h')
theorem S_eql_f (h : ¬ a = b) (k' : K (.bool false) w) : S P (vbin .eql t cx cy (.int k a) (.int k b)) w Kp K := S_eql (fun h' => absurd h' h) (fun _ => k')
theorem Fl_eql_t (h : a = b) (k' : X (.bool true)) : Fl P H (vbin .eql t cx cy (.int k a) (.int k b)) X := Fl_eql (fun _ => k') (fun h' => absurd h h')
theorem Fl_eql_f (h : ¬ a = b) (k' : X (.bool false)) : Fl P H (vbin .eql t cx cy (.int k a) (.int k b)) X := Fl_eql (fun h' => absurd h' h) (fun _ => k')
theorem S_neq_t (h : ¬ a = b) (k' : K (.bool true) w) : S P (vbin .neq t cx cy (.int k a) (.int k b)) w Kp K := S_neq (fun _ => k') (fun h' => absurd h' h)
theorem S_neq_f (h : a = b) (k' : K (.bool false) w) : S P (vbin .neq t cx cy (.int k a) (.int k b)) w Kp K := S_neq (fun h' => absurd h h') (fun _ => k')
theorem Fl_neq_t (h : ¬ a = b) (k' : X (.bool true)) : Fl P H (vbin .neq t cx cy (.int k a) (.int k b)) X := Fl_neq (fun _ => k') (fun h' => absurd h' h)
theorem Fl_neq_f (h : a = b) (k' : X (.bool false)) : Fl P H (vbin .neq t cx cy (.int k a) (.int k b)) X := Fl_neq (fun h' => absurd h h') (fun _ => k')
theorem S_lss_t (h : a < b) (k' : K (.bool true) w) : S P (vbin .lss t cx cy (.int k a) (.int k b)) w Kp K := S_lss (fun _ => k') (fun h' => absurd h h')
theorem S_lss_f (h : ¬ a < b) (k' : K (.bool false) w) : S P (vbin .lss t cx cy (.int k a) (.int k b)) w Kp K := S_lss (fun h' => absurd h' h) (fun _ => k')
theorem Fl_lss_t (h : a < b) (k' : X (.bool true)) : Fl P H (vbin .lss t cx cy (.int k a) (.int k b)) X := Fl_lss (fun _ => k') (fun h' => absurd h h')
theorem Fl_lss_f (h : ¬ a < b) (k' : X (.bool false)) : Fl P H (vbin .lss t cx cy (.int k a) (.int k b)) X := Fl_lss (fun h' => absurd h' h) (fun _ => k')
theorem S_leq_t (h : a ≤ b) (k' : K (.bool true) w) : S P (vbin .leq t cx cy (.int k a) (.int k b)) w Kp K := S_leq (fun _ => k') (fun h' => absurd h h')
theorem S_leq_f (h : ¬ a ≤ b) (k' : K (.bool false) w) : S P (vbin .leq t cx cy (.int k a) (.int k b)) w Kp K := S_leq (fun h' => absurd h' h) (fun _ => k')
theorem Fl_leq_t (h : a ≤ b) (k' : X (.bool true)) : Fl P H (vbin .leq t cx cy (.int k a) (.int k b)) X := Fl_leq (fun _ => k') (fun h' => absurd h h')
theorem Fl_leq_f (h : ¬ a ≤ b) (k' : X (.bool false)) : Fl P H (vbin .leq t cx cy (.int k a) (.int k b)) X := Fl_leq (fun h' => absurd h' h) (fun _ => k')
theorem S_gtr_t (h : b < a) (k' : K (.bool true) w) : S P (vbin .gtr t cx cy (.int k a) (.int k b)) w Kp K := S_gtr (fun _ => k') (fun h' => absurd h h')
theorem S_gtr_f (h : ¬ b < a) (k' : K (.bool false) w) : S P (vbin .gtr t cx cy (.int k a) (.int k b)) w Kp K := S_gtr (fun h' => absurd h' h) (fun _ => k')
theorem Fl_gtr_t (h : b < a) (k' : X (.bool true)) : Fl P H (vbin .gtr t cx cy (.int k a) (.int k b)) X := Fl_gtr (fun _ => k') (fun h' => absurd h h')
theorem Fl_gtr_f (h : ¬ b < a) (k' : X (.bool false)) : Fl P H (vbin .gtr t cx cy (.int k a) (.int k b)) X := Fl_gtr (fun h' => absurd h' h) (fun _ => k')
theorem S_geq_t (h : b ≤ a) (k' : K (.bool true) w) : S P (vbin .geq t cx cy (.int k a) (.int k b)) w Kp K := S_geq (fun _ => k') (fun h' => absurd h h')
theorem S_geq_f (h : ¬ b ≤ a) (k' : K (.bool false) w) : S P (vbin .geq t cx cy (.int k a) (.int k b)) w Kp K := S_geq (fun h' => absurd h' h) (fun _ => k')
theorem Fl_geq_t (h : b ≤ a) (k' : X (.bool true)) : Fl P H (vbin .geq t cx cy (.int k a) (.int k b)) X := Fl_geq (fun _ => k') (fun h' => absurd h h')
theorem Fl_geq_f (h : ¬ b ≤ a) (k' : X (.bool false)) : Fl P H (vbin .geq t cx cy (.int k a) (.int k b)) X := Fl_geq (fun h' => absurd h' h) (fun _ => k')
theorem wrap64_in {x : Int} (h : -9223372036854775808 ≤ x ∧ x < 9223372036854775808) : IntKind.i64.wrap x = x := by
  obtain ⟨h1, h2⟩ := h
  simp [IntKind.wrap, IntKind.signed, IntKind.bits]
  omega
theorem R_addi (h : -9223372036854775808 ≤ a + b ∧ a + b < 9223372036854775808) : R P (vbin .add t cx cy (i64 a) (i64 b)) (i64 (a + b)) := by have := R_add (P := P) .i64 t cx cy a b; rwa [wrap64_in h] at this
theorem R_subi (h : -9223372036854775808 ≤ a - b ∧ a - b < 9223372036854775808) : R P (vbin .sub t cx cy (i64 a) (i64 b)) (i64 (a - b)) := by have := R_sub (P := P) .i64 t cx cy a b; rwa [wrap64_in h] at this
theorem R_muli (h : -9223372036854775808 ≤ a * b ∧ a * b < 9223372036854775808) : R P (vbin .mul t cx cy (i64 a) (i64 b)) (i64 (a * b)) := by have := R_mul (P := P) .i64 t cx cy a b; rwa [wrap64_in h] at this
end

/-! ### memory -/
def nth : List Value → Nat → Option Value
  | [], _ => none
  | v :: _, 0 => some v
  | _ :: l, n + 1 => nth l n
theorem nth_list : ∀ (l : List Value) (n : Nat), nth l n = l[n]?
  | [], _ => rfl
  | _ :: _, 0 => rfl
  | _ :: l, n + 1 => by simpa [nth] using nth_list l n
theorem nth_eq {cs : Array Value} {o : Nat} {v : Value} (h : nth cs.toList o = some v) : cs[o]? = some v := by rw [nth_list] at h; simpa using h
def plainT (P : Program) (t : TypeId) : Bool := match P.underlying t with | some (.struct _) | some (.array _ _) | none => false | _ => true
def rowT (P : Program) (t : TypeId) : Bool := match P.underlying t with | some (.struct _) | some (.array _ _) => true | _ => false
def sizeT (P : Program) (t : TypeId) : Option Nat := (P.info? t).map (·.size)
theorem run_isAgg_f {t : TypeId} (h : plainT P t = true) (w : World) : (isAgg t).run P w = .ok false w := by
  unfold plainT at h
  unfold isAgg
  rw [Sem.run_bind]
  cases hu : P.underlying t with
  | none => rw [hu] at h; cases h
  | some d =>
    rw [hu] at h
    rw [run_underlying hu]
    cases d <;> first | rfl | (cases h)
theorem run_load_cell {a : Addr} (hc : w.cell? a = some v) : (load a).run P w = .ok v w := by
  simp [load, Sem.run, hc]
theorem run_loadAt {t : TypeId} {a : Addr} (ht : plainT P t = true) (hc : w.cell? a = some v) : (vload t (.pointer (some a))).run P w = .ok (.value v) w := by
  refine run_vv ?_
  unfold Instr.loadAt Instr.sureAddr loadVar
  rw [Sem.run_bind]
  show (Result.andThen (.ok a w) _) = _
  simp only [Result.andThen]
  rw [Sem.run_bind, run_isAgg_f ht]
  simp only [Result.andThen, Bool.false_eq_true, if_false]
  exact run_load_cell hc
theorem S_load {t : TypeId} {a : Addr} (ht : plainT P t = true) (hc : w.cell? a = some v) (k : K v w) : S P (vload t (.pointer (some a))) w Kp K := S_run (run_loadAt ht hc) k
theorem S_loadB {t e : TypeId} {b o : Nat} {cs : Array Value} {fr : Nat × Nat} (ht : plainT P t = true) (hg : w.heap[b]? = some (.cells cs e fr)) (hv : nth cs.toList o = some v) (k : K v w) : S P (vload t (ptr b o)) w Kp K :=
  S_load ht (by rw [cell_of_row w b o cs e fr hg]; exact nth_eq hv) k
theorem Fl_loadB {t e : TypeId} {b o : Nat} {cs : Array Value} {fr : Nat × Nat} (ht : plainT P t = true) (hg : ∀ w, H w → w.heap[b]? = some (.cells cs e fr)) (hv : nth cs.toList o = some v) (k : X v) : Fl P H (vload t (ptr b o)) X :=
  Fl_run (fun w hw => run_loadAt ht (by rw [cell_of_row w b o cs e fr (hg w hw)]; exact nth_eq hv)) k
theorem S_box {t : TypeId} {x : Value} (k : K (ptr w.heap.size 0) (w.alloc (.cells x.cells t))) : S P (vbox t x) w Kp K := S_run (v := ptr w.heap.size 0) rfl k
end
end Go.Sh
namespace Go.Sh
open Go.RowKit (Below)
section
variable {P : Program} {s : Sem Next} {v u : Value} {w w' : World} {Kp : KP} {K : K0} {H : World → Prop} {X : Value → Prop}

theorem cells_one {x : Value} (h : x.oneCell' = true) : x.cells = #[x] := by cases x <;> first | rfl | (cases h)
theorem run_sizeOf_T {t : TypeId} {n : Nat} (h : sizeT P t = some n) (w : World) : (sizeOf t).run P w = .ok n w := by
  unfold sizeT at h
  cases hi : P.info? t with
  | none => rw [hi] at h; cases h
  | some i =>
    rw [hi] at h
    simp only [Option.map_some, Option.some.injEq] at h
    subst h
    simp [sizeOf, typeInfo, hi]
theorem run_storeAt1 {t : TypeId} {b o : Nat} {x : Value} {cs : Array Value} {e : TypeId} (hs : sizeT P t = some 1) (hg : w.heap[b]? = some (.cells cs e (0, 0))) (ho : o < cs.size) (h1 : x.oneCell' = true) :
    (vstore t (ptr b o) x).run P w = .ok .skip (w.setRow b (cs.setIfInBounds o x)) := by
  unfold vstore Instr.storeAt Instr.sureAddr storeVar
  have hc := cells_one h1
  rw [Sem.run_bind]
  show Result.andThen ((do let __x ← (pure (⟨b, o, none⟩ : Addr) : Sem Addr); _ : Sem Unit).run P w) _ = _
  have hcell : w.cell? ⟨b, o, none⟩ = some cs[o] := by rw [cell_of_row w b o cs e (0, 0) hg]; simp [ho]
  have hfr : w.frozen? ⟨b, o, none⟩ = false := by simp [World.frozen?, hg]
  rw [← setCell_eq_setRow w b o cs e (0, 0) x hg]
  simp [Sem.run_bind, Result.andThen, run_sizeOf_T hs, hc, storeCells, Addr.add, run_store P w _ x _ h1, hcell, hfr]
theorem S_storeB {t : TypeId} {b o : Nat} {x : Value} {cs : Array Value} {e : TypeId} (hs : sizeT P t = some 1) (hg : w.heap[b]? = some (.cells cs e (0, 0))) (ho : o < cs.size) (h1 : x.oneCell' = true)
    (k : K undef (w.setRow b (cs.setIfInBounds o x))) : S P (vstore t (ptr b o) x) w Kp K := S_skip (run_storeAt1 hs hg ho h1) k
theorem run_storeRow {t : TypeId} {b : Nat} {xs cs : Array Value} {e : TypeId} (hs : sizeT P t = some xs.size) (hg : w.heap[b]? = some (.cells cs e (0, 0))) (ho : cs.size = xs.size) (h1 : xs.toList.all (·.oneCell') = true) :
    (vstore t (ptr b 0) (.agg xs)).run P w = .ok .skip (w.setRow b xs) := by
  rw [Array.all_toList] at h1
  unfold vstore Instr.storeAt Instr.sureAddr
  rw [Sem.run_bind]
  have := run_storeVar_row (P := P) w b e t cs xs hg hs ho h1
  simp [Sem.run_bind, Result.andThen, this]
theorem S_storeRow {t : TypeId} {b : Nat} {xs cs : Array Value} {e : TypeId} (hs : sizeT P t = some xs.size) (hg : w.heap[b]? = some (.cells cs e (0, 0))) (ho : cs.size = xs.size) (h1 : xs.toList.all (·.oneCell') = true)
    (k : K undef (w.setRow b xs)) : S P (vstore t (ptr b 0) (.agg xs)) w Kp K := S_skip (run_storeRow hs hg ho h1) k
theorem run_isAgg_t {t : TypeId} (h : rowT P t = true) (w : World) : (isAgg t).run P w = .ok true w := by
  unfold rowT at h
  unfold isAgg
  rw [Sem.run_bind]
  cases hu : P.underlying t with
  | none => rw [hu] at h; cases h
  | some d =>
    rw [hu] at h
    rw [run_underlying hu]
    cases d <;> first | rfl | (cases h)
theorem run_loadRow {t : TypeId} {b o : Nat} {n : Nat} {cs : Array Value} {e : TypeId} {fr : Nat × Nat} (hr : rowT P t = true) (hs : sizeT P t = some n) (hg : w.heap[b]? = some (.cells cs e fr)) (ho : o + n ≤ cs.size) :
    (vload t (ptr b o)).run P w = .ok (.value (.agg (cs.extract o (o + n)))) w := by
  refine run_vv ?_
  have hl : (loadCells ⟨b, o, none⟩ n).run P w = .ok (cs.extract o (o + n)) w := by
    have := run_loadCells_list (P := P) (w := w) ⟨b, o, none⟩ ((cs.toList.drop o).take n) (fun j v hv => by
      rw [Addr.add_mid, cell_of_row w b (o + j) cs e fr hg]
      rw [List.getElem?_take] at hv
      split at hv
      · rw [List.getElem?_drop] at hv; simpa using hv
      · cases hv)
    have hlen : ((cs.toList.drop o).take n).length = n := by simp; omega
    rw [hlen] at this
    rw [this]
    congr 1
    apply Array.ext'
    rw [Array.toList_extract]
    simp [List.extract]
  unfold Instr.loadAt Instr.sureAddr loadVar
  simp [Sem.run_bind, Result.andThen, run_isAgg_t hr, run_sizeOf_T hs, hl]
theorem S_loadRow {t : TypeId} {b o : Nat} {n : Nat} {cs : Array Value} {e : TypeId} {fr : Nat × Nat} (hr : rowT P t = true) (hs : sizeT P t = some n) (hg : w.heap[b]? = some (.cells cs e fr)) (ho : o + n ≤ cs.size)
    (k : K (.agg (cs.extract o (o + n))) w) : S P (vload t (ptr b o)) w Kp K := S_run (run_loadRow hr hs hg ho) k
theorem Fl_loadRow {t : TypeId} {b o : Nat} {n : Nat} {cs : Array Value} {e : TypeId} {fr : Nat × Nat} (hr : rowT P t = true) (hs : sizeT P t = some n) (hg : ∀ w, H w → w.heap[b]? = some (.cells cs e fr)) (ho : o + n ≤ cs.size)
    (k : X (.agg (cs.extract o (o + n)))) : Fl P H (vload t (ptr b o)) X := Fl_run (fun w hw => run_loadRow hr hs (hg w hw) ho) k
theorem RC_cell {t : TypeId} {b o : Nat} {cs : Array Value} {e : TypeId} {fr : Nat × Nat} (ht : plainT P t = true) (hg : w.heap[b]? = some (.cells cs e fr)) (hv : nth cs.toList o = some v) (k : X v) : RC P t (ptr b o) w X := by
  refine ⟨v, ?_, k⟩
  unfold asAddr loadVar
  have hc : w.cell? ⟨b, o, none⟩ = some v := by rw [cell_of_row w b o cs e fr hg]; exact nth_eq hv
  simp [Sem.run_bind, Result.andThen, run_isAgg_f ht, run_load_cell hc]
theorem RC_row {t : TypeId} {b n : Nat} {cs : Array Value} {e : TypeId} {fr : Nat × Nat} (hr : rowT P t = true) (hs : sizeT P t = some n) (hg : w.heap[b]? = some (.cells cs e fr)) (ho : cs.size = n) (k : X (.agg cs)) : RC P t (ptr b 0) w X := by
  refine ⟨.agg cs, ?_, k⟩
  have h := run_loadRow (o := 0) hr hs hg (by omega)
  unfold vload vv at h
  rw [Sem.run_bind] at h
  have e : cs.extract 0 (0 + n) = cs := by rw [Nat.zero_add, ← ho]; simp
  rw [e] at h
  unfold asAddr
  unfold Instr.loadAt Instr.sureAddr at h
  cases hl : (loadVar t ⟨b, 0, none⟩).run P w with
  | ok x w1 => simp [Sem.run_bind, Result.andThen, hl] at h ⊢; exact h
  | halt x w1 => simp [Sem.run_bind, Result.andThen, hl] at h
theorem S_alloc {t : TypeId} {z : Value} (hz : (P.info? t).bind (·.zero) = some z) (k : K (ptr w.heap.size 0) (w.alloc (.cells z.cells t))) : S P (valloc t) w Kp K := by
  refine S_run (v := ptr w.heap.size 0) (w' := w.alloc (.cells z.cells t)) (run_vv ?_) k
  have hzv : (zeroValue t).run P w = .ok z w := by
    cases hi : P.info? t with
    | none => rw [hi] at hz; cases hz
    | some i =>
      rw [hi] at hz
      simp only [Option.bind_some] at hz
      simp [zeroValue, typeInfo, hi, hz]
  unfold Instr.alloc
  simp [Sem.run_bind, Result.andThen, hzv, newVar, newRow, newObj, Sem.run]

/-! ### slices -/
theorem R_ixA {t e : TypeId} {sz b o n c : Nat} {k : IntKind} {i : Int} (hu : P.underlying t = some (.slice e)) (hs : sizeT P e = some sz) (h0 : 0 ≤ i) (h1 : i < n) :
    R P (vixA t (sl b o n c) (.int k i)) (ptr b (o + i.toNat * sz)) := R_vv fun w => by
  unfold Instr.indexAt asIntOf
  have hle : 0 ≤ i ∧ i < (n : Int) := ⟨h0, h1⟩
  simp [Sem.run_bind, Result.andThen, run_underlying hu, run_sizeOf_T hs, hle, Addr.add_mid]
theorem R_lenS {t ty e : TypeId} {cs : Array Bool} {a : Option Addr} {n c : Nat} (hu : P.underlying t = some (.slice e)) : R P (vblt .len #[t] ty cs #[.slice a n c]) (i64 n) := ⟨fun w => by
  unfold vblt invoke
  simp [builtin, Builtin.len_, Sem.run_bind, Result.andThen, run_underlying hu, goInt]⟩
theorem R_lenStr {t ty : TypeId} {cs : Array Bool} {x : ByteArray} (hu : P.underlying t = some .string) : R P (vblt .len #[t] ty cs #[.string x]) (i64 x.size) := ⟨fun w => by
  unfold vblt invoke
  simp [builtin, Builtin.len_, Sem.run_bind, Result.andThen, run_underlying hu, goInt]⟩
theorem R_max {ts : Array TypeId} {ty : TypeId} {cs : Array Bool} {a b : Int} {k : IntKind} : R P (vblt .max ts ty cs #[.int k a, .int k b]) (.int k (if b > a then b else a)) := ⟨fun w => by
  unfold vblt invoke
  simp [builtin, Builtin.max_, Builtin.max2, Sem.run_bind, Result.andThen]⟩
theorem R_min {ts : Array TypeId} {ty : TypeId} {cs : Array Bool} {a b : Int} {k : IntKind} : R P (vblt .min ts ty cs #[.int k a, .int k b]) (.int k (if b < a then b else a)) := ⟨fun w => by
  unfold vblt invoke
  simp [builtin, Builtin.min_, Builtin.min2, Sem.run_bind, Result.andThen]⟩
/-- x[:h] -/
theorem R_sliceTo {t e : TypeId} {a : Option Addr} {n c : Nat} {k : IntKind} {h : Int} {sz : Nat} (hu : P.underlying t = some (.slice e)) (hs : sizeT P e = some sz) (h0 : 0 ≤ h) (h1 : h ≤ c) :
    R P (vslice t (.slice a n c) none (some (.int k h)) none) (.slice a h.toNat c) := R_vv fun w => by
  have hle : 0 ≤ h ∧ h ≤ (c : Int) := ⟨h0, h1⟩
  unfold Instr.sliceAt
  simp only [Sem.run_bind, run_underlying hu, Result.andThen]
  unfold Instr.slice Instr.sliceBounds Instr.sliceBound asIntOf
  simp [Sem.run_bind, Result.andThen, run_underlying hu, run_sizeOf_T hs, hle]
  cases a with
  | none => intro _; rfl
  | some a => intro _; rfl
/-- x[l:] -/
theorem R_sliceFrom {t e : TypeId} {b o n c sz : Nat} {k : IntKind} {l : Int} (hu : P.underlying t = some (.slice e)) (hs : sizeT P e = some sz) (h0 : 0 ≤ l) (h1 : l ≤ n) (h2 : n ≤ c) (h3 : l < c) :
    R P (vslice t (sl b o n c) (some (.int k l)) none none) (sl b (o + l.toNat * sz) (n - l.toNat) (c - l.toNat)) := R_vv fun w => by
  have hle : 0 ≤ l ∧ l ≤ (n : Int) := ⟨h0, h1⟩
  have hne : ¬ c = l.toNat := by omega
  unfold Instr.sliceAt
  simp only [Sem.run_bind, run_underlying hu, Result.andThen]
  unfold Instr.slice Instr.sliceBounds Instr.sliceBound asIntOf
  simp [Sem.run_bind, Result.andThen, run_underlying hu, run_sizeOf_T hs, hle, hne, Addr.add_mid]
/-- append onto a row of one's own -/
theorem S_append {base : Nat} {t ty e : TypeId} {cs : Array Bool} {i : TypeInfo} {z : Value} (ht : P.underlying t = some (.slice e)) (hi : P.info? e = some i) (hz : i.zero = some z)
    (hzs : z.cells.size = i.size) (hsz : 0 < i.size) {n : Nat} {xs : List Value} (hown : w.ownsRow base e i.size v n xs)
    {a : Addr} {m c : Nat} {news : List Value} (hl : news.length = m * i.size) (hnews : ∀ j u, news[j]? = some u → w.cell? (a.add j) = some u) (h1 : ∀ u ∈ news, u.oneCell' = true)
    (h63 : n + m ≤ maxLen) (hbytes : (n + m) * i.bytes ≤ 140737488355328) (hbase : base ≤ w.heap.size)
    (k : ∀ v' w', w'.ownsRow base e i.size v' (n + m) (xs ++ news) → w.grownBy w' v.ownBlock → (v' = .slice none 0 0 ↔ v = .slice none 0 0 ∧ m = 0) → (v'.ownBlock = v.ownBlock ∨ v'.ownBlock = some w.heap.size) → K v' w') :
    S P (vblt .append #[t, t] ty cs #[v, .slice (some a) m c]) w Kp K := by
  obtain ⟨v', w', hr, h2, h3, h4, h5⟩ := run_append_own_at (P := P) w base t ty e i z i.size i.bytes ht hi hz rfl rfl hzs hsz v n xs hown a m c news hl hnews h1 h63 hbytes hbase
  refine S_run (v := v') (w' := w') ?_ (k v' w' h2 h3 h4 h5)
  unfold vblt invoke
  simp [builtin, Sem.run_bind, Result.andThen, hr]
/-- append of nothing -/
theorem S_append0 {t ty e : TypeId} {cs : Array Bool} {sz : Nat} (ht : P.underlying t = some (.slice e)) (hs : sizeT P e = some sz) {a : Option Addr} {n c : Nat} (hnc : n ≤ c) (k : K (.slice a n c) w) :
    S P (vblt .append #[t, t] ty cs #[.slice a n c, .slice none 0 0]) w Kp K := by
  refine S_run (v := .slice a n c) (w' := w) ?_ k
  unfold vblt invoke
  cases a <;> simp [builtin, Builtin.append_, Builtin.lenOf, Builtin.firstCells, storeCells, Sem.run_bind, Result.andThen, run_underlying ht, run_sizeOf_T hs, hnc]
end
end Go.Sh
namespace Go.Sh
open Go.RowKit (Below)

/-- an object: what its blocks hold; nothing else is looked at -/
structure Ob where
  rep : Nat → List Nat → World → Prop
  loc : ∀ d fp w w', rep d fp w → (∀ j ∈ fp, w'.heap[j]? = w.heap[j]?) → rep d fp w'
abbrev Store := Nat → Option Ob
def upT (T : Store) (d : Nat) (o : Ob) : Store := fun j => if j = d then some o else T j
@[simp] theorem upT_same (T : Store) (d : Nat) (o : Ob) : upT T d o d = some o := by simp [upT]
theorem upT_ne {T : Store} {d j : Nat} {o : Ob} (h : j ≠ d) : upT T d o j = T j := by simp [upT, h]

/-- from block B on the world holds these objects; below B it is as w0 was -/
structure Rep (B : Nat) (w0 : World) (T : Store) (w : World) : Prop where
  below : Below B w0 w
  size : B ≤ w.heap.size
  objs : ∃ F : Nat → List Nat, (∀ d o, T d = some o → o.rep d (F d) w ∧ d ∈ F d ∧ ∀ j ∈ F d, B ≤ j ∧ j < w.heap.size) ∧
    ∀ d d' o o', T d = some o → T d' = some o' → d ≠ d' → ∀ j ∈ F d, j ∉ F d'

theorem Rep.start (w : World) : Rep w.heap.size w (fun _ => none) w := ⟨Below.refl _ _, Nat.le_refl _, fun _ => [], (fun d o h => by cases h), (fun d d' o o' h => by cases h)⟩
/-- old blocks are as they were -/
structure Grow (w w' : World) : Prop where
  os : w'.os = w.os
  tape : w'.tape = w.tape
  output : w'.output = w.output
  size : w.heap.size ≤ w'.heap.size
  block : ∀ k, k < w.heap.size → w'.heap[k]? = w.heap[k]?
theorem Grow.refl (w : World) : Grow w w := ⟨rfl, rfl, rfl, Nat.le_refl _, fun _ _ => rfl⟩
theorem Grow.trans {a b c : World} (h : Grow a b) (k : Grow b c) : Grow a c :=
  ⟨k.os.trans h.os, k.tape.trans h.tape, k.output.trans h.output, Nat.le_trans h.size k.size, fun i hi => (k.block i (Nat.lt_of_lt_of_le hi h.size)).trans (h.block i hi)⟩
theorem Grow.alloc (w : World) (o : Obj) : Grow w (w.alloc o) := ⟨rfl, rfl, rfl, by simp, fun k hk => heap_alloc_old w o k hk⟩
theorem Grow.drew (w : World) : Grow w (drewW w) := ⟨rfl, rfl, rfl, Nat.le_refl _, fun _ _ => rfl⟩
theorem Grow.below {B : Nat} {w0 w w' : World} (h : Grow w w') (hb : Below B w0 w) (hB : B ≤ w.heap.size) : Below B w0 w' :=
  hb.trans ⟨h.os, h.tape, h.output, h.size, fun k hk => h.block k (by omega)⟩
theorem Rep.grow {B : Nat} {w0 : World} {T : Store} {w w' : World} (h : Rep B w0 T w) (g : Grow w w') : Rep B w0 T w' := by
  obtain ⟨F, h1, h2⟩ := h.objs
  refine ⟨g.below h.below h.size, Nat.le_trans h.size g.size, F, fun d o hd => ?_, h2⟩
  obtain ⟨a, b, c⟩ := h1 d o hd
  exact ⟨o.loc d (F d) w w' a (fun j hj => g.block j (c j hj).2), b, fun j hj => ⟨(c j hj).1, Nat.lt_of_lt_of_le (c j hj).2 g.size⟩⟩
/-- one object: its blocks; and what may be done to them -/
theorem Rep.take {B : Nat} {w0 : World} {T : Store} {w : World} (h : Rep B w0 T w) {d : Nat} {o : Ob} (hd : T d = some o) :
    ∃ fp, o.rep d fp w ∧ d ∈ fp ∧ (∀ j ∈ fp, B ≤ j ∧ j < w.heap.size) ∧
      ∀ (o' : Ob) (fp' : List Nat) (w' : World), o'.rep d fp' w' → d ∈ fp' → (∀ j ∈ fp', j ∈ fp ∨ w.heap.size ≤ j) → (∀ j ∈ fp', j < w'.heap.size) →
        w'.os = w.os → w'.tape = w.tape → w'.output = w.output → w.heap.size ≤ w'.heap.size → (∀ j, j < w.heap.size → j ∉ fp → w'.heap[j]? = w.heap[j]?) → Rep B w0 (upT T d o') w' := by
  obtain ⟨F, h1, h2⟩ := h.objs
  obtain ⟨a, b, c⟩ := h1 d o hd
  refine ⟨F d, a, b, c, fun o' fp' w' hr hdf hsub hlt hos htape hout hsz hsame => ?_⟩
  refine ⟨h.below.trans ⟨hos, htape, hout, hsz, fun k hk => hsame k (by have := h.size; omega) (fun hk' => by have := (c k hk').1; omega)⟩, Nat.le_trans h.size hsz, fun j => if j = d then fp' else F j, fun d1 o1 hd1 => ?_, fun d1 d2 o1 o2 hd1 hd2 hne j hj => ?_⟩
  · by_cases e : d1 = d
    · subst e
      simp only [upT_same, Option.some.injEq] at hd1
      subst hd1
      simp only [if_pos]
      exact ⟨hr, hdf, fun j hj => ⟨by rcases hsub j hj with h' | h'; exact (c j h').1; have := h.size; omega, hlt j hj⟩⟩
    · rw [upT_ne e] at hd1
      obtain ⟨a1, b1, c1⟩ := h1 d1 o1 hd1
      simp only [if_neg e]
      exact ⟨o1.loc d1 (F d1) w w' a1 (fun j hj => hsame j (c1 j hj).2 (h2 d1 d o1 o hd1 hd e j hj)), b1, fun j hj => ⟨(c1 j hj).1, Nat.lt_of_lt_of_le (c1 j hj).2 hsz⟩⟩
  · by_cases e1 : d1 = d
    · subst e1
      have e2 : ¬ d2 = d1 := fun h => hne h.symm
      rw [upT_ne e2] at hd2
      simp only [if_pos, if_neg e2] at hj ⊢
      intro hj2
      rcases hsub j hj with h' | h'
      · exact h2 d1 d2 o o2 hd hd2 hne j h' hj2
      · have := ((h1 d2 o2 hd2).2.2 j hj2).2; omega
    · rw [upT_ne e1] at hd1
      simp only [if_neg e1] at hj
      by_cases e2 : d2 = d
      · subst e2
        simp only [if_pos]
        intro hj2
        rcases hsub j hj2 with h' | h'
        · exact h2 d1 d2 o1 o hd1 hd e1 j hj h'
        · have := ((h1 d1 o1 hd1).2.2 j hj).2; omega
      · rw [upT_ne e2] at hd2
        simp only [if_neg e2]
        exact h2 d1 d2 o1 o2 hd1 hd2 hne j hj
/-- a new object -/
theorem Rep.new {B : Nat} {w0 : World} {T : Store} {w w' : World} (h : Rep B w0 T w) (g : Grow w w') {d : Nat} {o : Ob} {fp : List Nat} (hr : o.rep d fp w') (hd : d ∈ fp)
    (hfp : ∀ j ∈ fp, w.heap.size ≤ j ∧ j < w'.heap.size) : Rep B w0 (upT T d o) w' := by
  have h' := h.grow g
  obtain ⟨F, h1, h2⟩ := h.objs
  refine ⟨h'.below, h'.size, fun j => if j = d then fp else F j, fun d1 o1 hd1 => ?_, fun d1 d2 o1 o2 hd1 hd2 hne j hj => ?_⟩
  · by_cases e : d1 = d
    · subst e
      simp only [upT_same, Option.some.injEq] at hd1
      subst hd1
      simp only [if_pos]
      exact ⟨hr, hd, fun j hj => ⟨by have := (hfp j hj).1; have := h.size; omega, (hfp j hj).2⟩⟩
    · rw [upT_ne e] at hd1
      obtain ⟨a1, b1, c1⟩ := h1 d1 o1 hd1
      simp only [if_neg e]
      exact ⟨o1.loc d1 (F d1) w w' a1 (fun j hj => g.block j (c1 j hj).2), b1, fun j hj => ⟨(c1 j hj).1, Nat.lt_of_lt_of_le (c1 j hj).2 g.size⟩⟩
  · by_cases e1 : d1 = d
    · subst e1
      have e2 : ¬ d2 = d1 := fun h => hne h.symm
      rw [upT_ne e2] at hd2
      simp only [if_pos, if_neg e2] at hj ⊢
      intro hj2
      have := ((h1 d2 o2 hd2).2.2 j hj2).2
      have := (hfp j hj).1
      omega
    · rw [upT_ne e1] at hd1
      simp only [if_neg e1] at hj
      have hjs := ((h1 d1 o1 hd1).2.2 j hj).2
      by_cases e2 : d2 = d
      · subst e2
        simp only [if_pos]
        intro hj2
        have := (hfp j hj2).1
        omega
      · rw [upT_ne e2] at hd2
        simp only [if_neg e2]
        exact h2 d1 d2 o1 o2 hd1 hd2 hne j hj
theorem Rep.lt {B : Nat} {w0 : World} {T : Store} {w : World} (h : Rep B w0 T w) {d : Nat} {o : Ob} (hd : T d = some o) : B ≤ d ∧ d < w.heap.size := by
  obtain ⟨fp, _, h2, h3, _⟩ := h.take hd
  exact h3 d h2
theorem Rep.fresh {B : Nat} {w0 : World} {T : Store} {w : World} (h : Rep B w0 T w) {j : Nat} (hj : w.heap.size ≤ j) : T j = none := by
  cases hT : T j with
  | none => rfl
  | some o => have := (h.lt hT).2; omega
/-- fewer objects -/
theorem Rep.drop {B : Nat} {w0 : World} {T T' : Store} {w : World} (h : Rep B w0 T w) (hs : ∀ d o, T' d = some o → T d = some o) : Rep B w0 T' w := by
  obtain ⟨F, h1, h2⟩ := h.objs
  exact ⟨h.below, h.size, F, fun d o hd => h1 d o (hs d o hd), fun d d' o o' hd hd' => h2 d d' o o' (hs d o hd) (hs d' o' hd')⟩

/-- a block whole -/
def raw (cs : Array Value) (t : Nat) : Ob where
  rep d fp w := fp = [d] ∧ w.heap[d]? = some (.cells cs t (0, 0))
  loc := by
    rintro d fp w w' ⟨rfl, h⟩ hs
    exact ⟨rfl, by rw [hs d (by simp)]; exact h⟩
theorem Rep.raw {B : Nat} {w0 : World} {T : Store} {w : World} (h : Rep B w0 T w) {d : Nat} {cs : Array Value} {t : Nat} (hd : T d = some (raw cs t)) : w.heap[d]? = some (.cells cs t (0, 0)) := by
  obtain ⟨fp, h1, _⟩ := h.take hd
  exact h1.2
/-- a struct of one slice that it owns -/
def pile (e sz t : Nat) (xs : List Value) (n : Nat) : Ob where
  rep d fp w := ∃ sv, w.heap[d]? = some (.cells #[sv] t (0, 0)) ∧ w.ownsRow 0 e sz sv n xs ∧ sv.ownBlock ≠ some d ∧ fp = d :: sv.ownBlock.toList
  loc := by
    rintro d fp w w' ⟨sv, h1, h2, h3, rfl⟩ hs
    refine ⟨sv, by rw [hs d (by simp)]; exact h1, ⟨h2.1, ?_⟩, h3, rfl⟩
    rcases h2.2 with hn | ⟨g, cap, cur, rfl, hb, hg, rest⟩
    · exact .inl hn
    · exact .inr ⟨g, cap, cur, rfl, hb, by rw [hs g (by simp [Value.ownBlock])]; exact hg, rest⟩
theorem Rep.pile {B : Nat} {w0 : World} {T : Store} {w : World} (h : Rep B w0 T w) {d e sz t n : Nat} {xs : List Value} (hT : T d = some (pile e sz t xs n)) :
    ∃ sv, w.heap[d]? = some (.cells #[sv] t (0, 0)) ∧ w.ownsRow 0 e sz sv n xs ∧ sv.ownBlock ≠ some d ∧ d < w.heap.size ∧
      ∀ v' w1 xs' n', w1.ownsRow 0 e sz v' n' xs' → w.grownBy w1 sv.ownBlock → (v'.ownBlock = sv.ownBlock ∨ v'.ownBlock = some w.heap.size) → Rep B w0 (upT T d (Sh.pile e sz t xs' n')) (w1.setRow d #[v']) := by
  obtain ⟨fp, ⟨sv, hd, hown, hne, rfl⟩, hdf, hlt, hupd⟩ := h.take hT
  have hdl := (hlt d hdf).2
  refine ⟨sv, hd, hown, hne, hdl, fun v' w1 xs' n' hown1 hg hblk => ?_⟩
  have hd1 : w1.heap[d]? = some (.cells #[sv] t (0, 0)) := by rw [hg.block d hdl (fun e => hne e.symm)]; exact hd
  have hne' : v'.ownBlock ≠ some d := by
    rcases hblk with e | e
    · rw [e]; exact hne
    · rw [e]; intro h'; simp only [Option.some.injEq] at h'; omega
  have hlt1 := hown1.lt
  refine hupd _ (d :: v'.ownBlock.toList) _ ⟨v', setRow_heap w1 d _ _ t (0, 0) hd1, ?_, hne', rfl⟩ (by simp) ?_ ?_ hg.os hg.tape hg.output (by simpa using hg.size) ?_
  · refine ⟨hown1.1, ?_⟩
    rcases hown1.2 with hn | ⟨g, cap, cur, rfl, hb, hgg, rest⟩
    · exact .inl hn
    · refine .inr ⟨g, cap, cur, rfl, hb, ?_, rest⟩
      rw [setRow_other _ _ _ _ (fun e => hne' (by simp [Value.ownBlock, e]))]
      exact hgg
  · intro j hj
    simp only [List.mem_cons, Option.mem_toList] at hj ⊢
    rcases hj with rfl | hj
    · exact .inl (.inl rfl)
    · rcases hblk with e | e
      · rw [e] at hj; exact .inl (.inr hj)
      · rw [e] at hj; simp only [Option.some.injEq] at hj; exact .inr (by omega)
  · intro j hj
    simp only [List.mem_cons, Option.mem_toList] at hj
    rw [setRow_size]
    rcases hj with rfl | hj
    · have := hg.size; omega
    · exact (hlt1 j hj).2
  · intro j hj hj2
    simp only [List.mem_cons, Option.mem_toList, not_or] at hj2
    rw [setRow_other _ _ _ _ hj2.1]
    exact hg.block j hj (fun e => hj2.2 e.symm)
theorem grownBy_refl (w : World) (row : Option Nat) : w.grownBy w row := ⟨rfl, rfl, rfl, Nat.le_refl _, fun _ _ _ => rfl⟩
theorem upT_eq {T : Store} {d : Nat} {o : Ob} (h : T d = some o) : upT T d o = T := by
  funext j
  by_cases e : j = d
  · subst e; simp [h]
  · exact upT_ne e
end Go.Sh
namespace Go.Sh
section
variable {P : Program} {s : Sem Next} {v u : Value} {w w' : World} {Kp : KP} {K : K0} {H : World → Prop} {X : Value → Prop}

theorem setRow_alloc_new (w : World) (c c' : Array Value) (e : TypeId) : (w.alloc (.cells c e)).setRow w.heap.size c' = w.alloc (.cells c' e) := by
  unfold World.setRow World.alloc
  congr 1
  apply Array.ext
  · simp
  · intro i h1 h2
    simp only [Array.getElem_modify]
    by_cases hi : w.heap.size = i
    · subst hi; simp
    · rw [if_neg hi]
      simp only [Array.size_modify, Array.size_push] at h1
      rw [Array.getElem_push_lt (by omega), Array.getElem_push_lt (by omega)]
theorem heap_old {d : Nat} {o : Obj} {x : Option Obj} (hd : w.heap[d]? = x) (hlt : d < w.heap.size) : (w.alloc o).heap[d]? = x := by rw [heap_alloc_old w o d hlt]; exact hd
theorem S_mkS {t e : TypeId} {i : TypeInfo} {z : Value} (ht : P.underlying t = some (.slice e)) (hi : P.info? e = some i) (hz : i.zero = some z)
    {kl kc : IntKind} {l c : Int} (h0 : 0 ≤ l) (hlc : l ≤ c) (hcells : c.toNat * i.size ≤ 16777216) (hbytes : (i.bytes : Int) * c ≤ 281474976710656) (h63 : c ≤ 9223372036854775807)
    (k : K (sl w.heap.size 0 l.toNat c.toNat) (w.alloc (.cells (madeCells z.cells (c.toNat * i.size)) e))) : S P (vmkS t (.int kl l) (.int kc c)) w Kp K :=
  S_run (run_vv (run_makeSlice (P := P) w t e i z ht hi hz kl kc l c h0 hlc hcells hbytes h63)) k
theorem S_copy {dT sT ty e : TypeId} {cb : Array Bool} {sz : Nat} (hu : P.underlying dT = some (.slice e)) (hs : sizeT P e = some sz) {g o dLen dCap m sLen sCap : Nat} {a : Addr} {cur : Array Value} {t : TypeId} {cs : List Value}
    (hg : w.heap[g]? = some (.cells cur t (0, 0))) (hm : m = Nat.min sLen dLen) (hn : cs.length = m * sz) (hsrc : ∀ j v, cs[j]? = some v → w.cell? (a.add j) = some v) (hfit : o + cs.length ≤ cur.size)
    (h1 : ∀ v ∈ cs, v.oneCell' = true) (k : K (i64 m) (w.setRow g (cur.toList.take o ++ cs ++ cur.toList.drop (o + cs.length)).toArray)) :
    S P (vblt .copy #[dT, sT] ty cb #[sl g o dLen dCap, .slice (some a) sLen sCap]) w Kp K := by
  refine S_run (v := i64 m) ?_ k
  have hf := run_firstCells_some (P := P) w sz m a sLen sCap cs hn hsrc
  have hst := run_storeCells_at P g o t cs 0 cur w hg (by simpa using hfit) h1
  simp only [Nat.add_zero] at hst
  unfold vblt invoke
  simp [builtin, Builtin.copy_, Builtin.lenOf, Sem.run_bind, Result.andThen, run_underlying hu, run_sizeOf_T hs, ← hm, hf, hst, goInt]
/-- copy onto a block that has just been made -/
theorem S_copyNew {dT sT ty e : TypeId} {cb : Array Bool} {sz : Nat} (hu : P.underlying dT = some (.slice e)) (hs : sizeT P e = some sz) {n cap sCap : Nat} {a : Addr} {cur : Array Value} {t : TypeId} {cs : List Value}
    (hn : cs.length = n * sz) (hc : cur.size = n * sz) (hsrc : ∀ j v, cs[j]? = some v → w.cell? (a.add j) = some v)
    (h1 : ∀ v ∈ cs, v.oneCell' = true) (k : K (i64 n) (w.alloc (.cells cs.toArray t))) :
    S P (vblt .copy #[dT, sT] ty cb #[sl w.heap.size 0 n cap, .slice (some a) n sCap]) (w.alloc (.cells cur t)) Kp K := by
  refine S_copy (m := n) hu hs (heap_alloc_new w _) (by simp [Nat.min_def]) hn (fun j v hj => ?_) (by simp [hn, hc]) h1 ?_
  · have := hsrc j v hj
    have hlt := World.block_lt_of_cell? w (a.add j) this
    rw [World.cell?_of_block (w := w) (heap_alloc_old w _ _ hlt)]; exact this
  · rw [setRow_alloc_new]
    have : (cur.toList.take 0 ++ cs ++ cur.toList.drop (0 + cs.length)) = cs := by
      rw [List.drop_of_length_le (by simp; omega)]; simp
    rw [this]; exact k
/-- whole numbers from kind to kind -/
theorem R_conv {s d : TypeId} {j k : IntKind} {x : Int} (hs : P.underlying s = some (.int j)) (hd : P.underlying d = some (.int k)) : R P (vconv s d (.int j x)) (.int k (k.wrap x)) := R_vv fun w => by
  unfold convert
  simp [Sem.run_bind, Result.andThen, run_underlying hs, run_underlying hd]
  rfl
end
end Go.Sh
namespace Go.Sh
section
variable {P : Program} {v : Value} {w w0 : World} {Kp : KP} {K : K0} {H : World → Prop} {X : Value → Prop} {B : Nat} {T : Store}
theorem look_new {d b : Nat} {o o' : Ob} (hd : T d = some o) (hb : T b = none) : upT T b o' d = some o := by
  rw [upT_ne (fun e => by rw [e, hb] at hd; cases hd)]; exact hd
theorem ne_new {d b : Nat} {o : Ob} (hd : T d = some o) (hb : T b = none) : d ≠ b := fun e => by rw [e, hb] at hd; cases hd
theorem look_upd {d b : Nat} {o o' : Ob} (hd : T d = some o) (hn : d ≠ b) : upT T b o' d = some o := by rw [upT_ne hn]; exact hd
theorem look_none {d b : Nat} {o' : Ob} (hd : T d = none) (hn : d ≠ b) : upT T b o' d = none := by rw [upT_ne hn]; exact hd
theorem upT_upT (T : Store) (b : Nat) (o o' : Ob) : upT (upT T b o) b o' = upT T b o' := by
  funext j; by_cases e : j = b
  · subst e; simp
  · rw [upT_ne e, upT_ne e, upT_ne e]
theorem upT_comm (T : Store) {b d : Nat} (h : b ≠ d) (o o' : Ob) : upT (upT T b o) d o' = upT (upT T d o') b o := by
  funext j; by_cases e : j = b
  · subst e; rw [upT_ne h]; simp
  · rw [upT_ne e]
    by_cases e' : j = d
    · subst e'; simp
    · rw [upT_ne e', upT_ne e', upT_ne e]
theorem Rep.drop1 {b : Nat} {o : Ob} (h : Rep B w0 (upT T b o) w) (hb : T b = none) : Rep B w0 T w := h.drop fun d o' hd => look_new hd hb
/-- a local object goes, another has turned -/
theorem Rep.drop2 {b d : Nat} {o x : Ob} (h : Rep B w0 (upT (upT T b o) d x) w) (hb : T b = none) (hne : b ≠ d) : Rep B w0 (upT T d x) w := by
  rw [upT_comm T hne] at h
  exact h.drop1 (look_none hb hne)
theorem Rep.newRaw (h : Rep B w0 T w) (cs : Array Value) (t : Nat) : Rep B w0 (upT T w.heap.size (Sh.raw cs t)) (w.alloc (.cells cs t)) :=
  h.new (Grow.alloc w _) (fp := [w.heap.size]) ⟨rfl, heap_alloc_new w _⟩ (by simp) (by simp)
theorem Rep.setRaw (h : Rep B w0 T w) {b t : Nat} {cs cs' : Array Value} (hb : T b = some (Sh.raw cs t)) : Rep B w0 (upT T b (Sh.raw cs' t)) (w.setRow b cs') := by
  obtain ⟨fp, ⟨rfl, hd⟩, hdf, hlt, hupd⟩ := h.take hb
  refine hupd _ [b] _ ⟨rfl, setRow_heap w b cs cs' t (0, 0) hd⟩ (by simp) (fun j hj => .inl hj) (fun j hj => by rw [setRow_size]; exact (hlt j hj).2) rfl rfl rfl (by simp) (fun j hj hn => setRow_other _ _ _ _ (by simpa using hn))
theorem S_boxR {t : TypeId} {x : Value} (h : Rep B w0 T w) (k : ∀ b w', T b = none → Rep B w0 (upT T b (raw x.cells t)) w' → K (ptr b 0) w') : S P (vbox t x) w Kp K :=
  S_box (k _ _ (h.fresh (Nat.le_refl _)) (h.newRaw _ _))
theorem S_allocR {t : TypeId} {z : Value} (hz : (P.info? t).bind (·.zero) = some z) (h : Rep B w0 T w) (k : ∀ b w', T b = none → Rep B w0 (upT T b (raw z.cells t)) w' → K (ptr b 0) w') : S P (valloc t) w Kp K :=
  S_alloc hz (k _ _ (h.fresh (Nat.le_refl _)) (h.newRaw _ _))
theorem S_loadR {t : TypeId} {b o t' : Nat} {cs : Array Value} (ht : plainT P t = true) (h : Rep B w0 T w) (hb : T b = some (raw cs t')) (hv : nth cs.toList o = some v) (k : K v w) : S P (vload t (ptr b o)) w Kp K :=
  S_loadB ht (h.raw hb) hv k
theorem S_loadRowR {t : TypeId} {b o n t' : Nat} {cs : Array Value} (hr : rowT P t = true) (hs : sizeT P t = some n) (h : Rep B w0 T w) (hb : T b = some (raw cs t')) (ho : Nat.ble (o + n) cs.size = true) (k : K (.agg (cs.extract o (o + n))) w) :
    S P (vload t (ptr b o)) w Kp K := S_loadRow hr hs (h.raw hb) (Nat.le_of_ble_eq_true ho) k
theorem S_loadAllR {t : TypeId} {b n t' : Nat} {cs : Array Value} (hr : rowT P t = true) (hs : sizeT P t = some n) (h : Rep B w0 T w) (hb : T b = some (raw cs t')) (ho : cs.size = n) (k : K (.agg cs) w) :
    S P (vload t (ptr b 0)) w Kp K := S_loadRow hr hs (h.raw hb) (by omega) (by rw [show cs.extract 0 (0 + n) = cs by rw [← ho]; simp]; exact k)
theorem S_storeR {t : TypeId} {b o t' : Nat} {x : Value} {cs : Array Value} (hs : sizeT P t = some 1) (h : Rep B w0 T w) (hb : T b = some (raw cs t')) (ho : Nat.blt o cs.size = true) (h1 : x.oneCell' = true)
    (k : ∀ w', Rep B w0 (upT T b (raw (cs.setIfInBounds o x) t')) w' → K undef w') : S P (vstore t (ptr b o) x) w Kp K :=
  S_storeB hs (h.raw hb) (Nat.le_of_ble_eq_true ho) h1 (k _ (h.setRaw hb))
theorem S_storeRowR {t : TypeId} {b t' : Nat} {xs cs : Array Value} (hs : sizeT P t = some xs.size) (h : Rep B w0 T w) (hb : T b = some (raw cs t')) (ho : cs.size = xs.size) (h1 : xs.toList.all (·.oneCell') = true)
    (k : ∀ w', Rep B w0 (upT T b (raw xs t')) w' → K undef w') : S P (vstore t (ptr b 0) (.agg xs)) w Kp K :=
  S_storeRow hs (h.raw hb) ho h1 (k _ (h.setRaw hb))
theorem RC_cellR {t : TypeId} {b o t' : Nat} {cs : Array Value} (ht : plainT P t = true) (h : Rep B w0 T w) (hb : T b = some (raw cs t')) (hv : nth cs.toList o = some v) (k : X v) : RC P t (ptr b o) w X := RC_cell ht (h.raw hb) hv k
theorem RC_rowR {t : TypeId} {b n t' : Nat} {cs : Array Value} (hr : rowT P t = true) (hs : sizeT P t = some n) (h : Rep B w0 T w) (hb : T b = some (raw cs t')) (ho : cs.size = n) (k : X (.agg cs)) : RC P t (ptr b 0) w X :=
  RC_row hr hs (h.raw hb) ho k
/-- a row of cells that lies anywhere -/
theorem S_loadRowC {t : TypeId} {b o : Nat} {cs : List Value} (hr : rowT P t = true) (hs : sizeT P t = some cs.length) (hc : ∀ j v, cs[j]? = some v → w.cell? ⟨b, o + j, none⟩ = some v) (k : K (.agg cs.toArray) w) :
    S P (vload t (ptr b o)) w Kp K := by
  refine S_run (v := .agg cs.toArray) (w' := w) (run_vv ?_) k
  have hl := run_loadCells_list (P := P) (w := w) ⟨b, o, none⟩ cs (fun j v hv => by rw [Addr.add_mid]; exact hc j v hv)
  unfold Instr.loadAt Instr.sureAddr loadVar
  simp [Sem.run_bind, Result.andThen, run_isAgg_t hr, run_sizeOf_T hs, hl]
/-- a new row: '[]T{..}' -/
theorem S_buildSR {t e : TypeId} {n : Nat} {ps : Array (Nat × Value)} {cs : Array Value} (hrun : ∀ w, (vbuildS t n ps).run P w = .ok (.value (sl w.heap.size 0 n n)) (w.alloc (.cells cs e)))
    (h : Rep B w0 T w) (k : ∀ b w', T b = none → Rep B w0 (upT T b (raw cs e)) w' → K (sl b 0 n n) w') : S P (vbuildS t n ps) w Kp K :=
  S_run (hrun w) (k _ _ (h.fresh (Nat.le_refl _)) (h.newRaw _ _))
theorem S_mkSR {t e : TypeId} {i : TypeInfo} {z : Value} (ht : P.underlying t = some (.slice e)) (hi : P.info? e = some i) (hz : i.zero = some z)
    {kl kc : IntKind} {n : Nat} (hcells : n * i.size ≤ 16777216) (hbytes : i.bytes * n ≤ 281474976710656) (h63 : n ≤ 9223372036854775807) (h : Rep B w0 T w)
    (k : ∀ b w', T b = none → Rep B w0 (upT T b (raw (madeCells z.cells (n * i.size)) e)) w' → K (sl b 0 n n) w') : S P (vmkS t (.int kl (n : Int)) (.int kc (n : Int))) w Kp K :=
  S_mkS ht hi hz (by omega) (by omega) (by rw [Int.toNat_natCast]; exact hcells) (by rw [← Int.natCast_mul]; exact Int.ofNat_le.2 hbytes) (Int.ofNat_le.2 h63) (by rw [Int.toNat_natCast]; exact k _ _ (h.fresh (Nat.le_refl _)) (h.newRaw _ _))
end
end Go.Sh
namespace Go.Sh
theorem GS_u {P : Program} {s : Sem Next} {w : World} {Kp : KP} {K : K0} {b : Bool} (k : K undef w) : GS undef b P s w Kp K := ⟨k⟩
theorem GF_u {P : Program} {s : Sem Next} {H : World → Prop} {X : Value → Prop} {b : Bool} (k : X undef) : GF undef b P H s X := ⟨k⟩
theorem wrap8 (x : Int) : IntKind.u8.wrap x = x % 256 := by simp [IntKind.wrap, IntKind.signed, IntKind.bits]
theorem wrap16 (x : Int) : IntKind.u16.wrap x = x % 65536 := by simp [IntKind.wrap, IntKind.signed, IntKind.bits]
section
variable {P : Program} {t : TypeId} {cx cy : Bool} {k : IntKind} {a b : Int}
theorem R_and : R P (vbin .and t cx cy (.int k a) (.int k b)) (.int k (k.wrap ((BitVec.ofInt k.bits a &&& BitVec.ofInt k.bits b).toNat))) := by cases k <;> exact ⟨fun _ => rfl⟩
theorem R_or : R P (vbin .or t cx cy (.int k a) (.int k b)) (.int k (k.wrap ((BitVec.ofInt k.bits a ||| BitVec.ofInt k.bits b).toNat))) := by cases k <;> exact ⟨fun _ => rfl⟩
theorem R_xor : R P (vbin .xor t cx cy (.int k a) (.int k b)) (.int k (k.wrap ((BitVec.ofInt k.bits a ^^^ BitVec.ofInt k.bits b).toNat))) := by cases k <;> exact ⟨fun _ => rfl⟩
theorem ofInt_toNat {n : Nat} {x : Int} (h0 : 0 ≤ x) (h1 : x < 2 ^ n) : (BitVec.ofInt n x).toNat = x.toNat := by
  rw [BitVec.toNat_ofInt]
  rw [Int.emod_eq_of_lt h0 (by exact_mod_cast h1)]
theorem R_and16 (h0 : 0 ≤ a ∧ a < 65536) (h1 : 0 ≤ b ∧ b < 65536) : R P (vbin .and t cx cy (u16 a) (u16 b)) (u16 (a.toNat &&& b.toNat : Nat)) := by
  have h := R_and (P := P) (t := t) (cx := cx) (cy := cy) (k := .u16) (a := a) (b := b)
  have e : IntKind.u16.wrap ((BitVec.ofInt IntKind.u16.bits a &&& BitVec.ofInt IntKind.u16.bits b).toNat) = ((a.toNat &&& b.toNat : Nat) : Int) := by
    rw [wrap16]
    show ((BitVec.ofInt 16 a &&& BitVec.ofInt 16 b).toNat : Int) % 65536 = _
    rw [BitVec.toNat_and, ofInt_toNat h0.1 (by omega), ofInt_toNat h1.1 (by omega)]
    have := Nat.and_le_left (n := a.toNat) (m := b.toNat)
    omega
  rw [e] at h; exact h
theorem R_or16 (h0 : 0 ≤ a ∧ a < 65536) (h1 : 0 ≤ b ∧ b < 65536) : R P (vbin .or t cx cy (u16 a) (u16 b)) (u16 (a.toNat ||| b.toNat : Nat)) := by
  have h := R_or (P := P) (t := t) (cx := cx) (cy := cy) (k := .u16) (a := a) (b := b)
  have e : IntKind.u16.wrap ((BitVec.ofInt IntKind.u16.bits a ||| BitVec.ofInt IntKind.u16.bits b).toNat) = ((a.toNat ||| b.toNat : Nat) : Int) := by
    rw [wrap16]
    show ((BitVec.ofInt 16 a ||| BitVec.ofInt 16 b).toNat : Int) % 65536 = _
    rw [BitVec.toNat_or, ofInt_toNat h0.1 (by omega), ofInt_toNat h1.1 (by omega)]
    have := Nat.or_lt_two_pow (n := 16) (x := a.toNat) (y := b.toNat) (by omega) (by omega)
    omega
  rw [e] at h; exact h
theorem R_xor16 (h0 : 0 ≤ a ∧ a < 65536) (h1 : 0 ≤ b ∧ b < 65536) : R P (vbin .xor t cx cy (u16 a) (u16 b)) (u16 (a.toNat ^^^ b.toNat : Nat)) := by
  have h := R_xor (P := P) (t := t) (cx := cx) (cy := cy) (k := .u16) (a := a) (b := b)
  have e : IntKind.u16.wrap ((BitVec.ofInt IntKind.u16.bits a ^^^ BitVec.ofInt IntKind.u16.bits b).toNat) = ((a.toNat ^^^ b.toNat : Nat) : Int) := by
    rw [wrap16]
    show ((BitVec.ofInt 16 a ^^^ BitVec.ofInt 16 b).toNat : Int) % 65536 = _
    rw [BitVec.toNat_xor, ofInt_toNat h0.1 (by omega), ofInt_toNat h1.1 (by omega)]
    have := Nat.xor_lt_two_pow (n := 16) (x := a.toNat) (y := b.toNat) (by omega) (by omega)
    omega
  rw [e] at h; exact h
theorem R_shl {yk : IntKind} {s : Int} (h : 0 ≤ s) : R P (vbin .shl t cx cy (.int k a) (.int yk s)) (.int k (k.wrap (a * 2 ^ (min s.toNat k.bits)))) := by
  refine ⟨fun w => ?_⟩
  have hn : ¬ s < 0 := by omega
  refine run_vv ?_
  simp [eqGuard, binOp, Op.shift, hn]
theorem R_shr {yk : IntKind} {s : Int} (h : 0 ≤ s) : R P (vbin .shr t cx cy (.int k a) (.int yk s)) (.int k (a.fdiv (2 ^ (min s.toNat k.bits)))) := by
  refine ⟨fun w => ?_⟩
  have hn : ¬ s < 0 := by omega
  refine run_vv ?_
  simp [eqGuard, binOp, Op.shift, hn]
theorem R_shl8 : R P (vbin .shl t cx cy (u16 a) (.int .u64 8)) (u16 (a * 256 % 65536)) := by
  have h := R_shl (P := P) (t := t) (cx := cx) (cy := cy) (k := .u16) (a := a) (yk := .u64) (s := 8) (by omega)
  rw [wrap16] at h
  exact h
theorem R_shr8 : R P (vbin .shr t cx cy (u16 a) (.int .u64 8)) (u16 (a / 256)) := by
  have h := R_shr (P := P) (t := t) (cx := cx) (cy := cy) (k := .u16) (a := a) (yk := .u64) (s := 8) (by omega)
  have e : a.fdiv (2 ^ (min (8 : Int).toNat IntKind.u16.bits)) = a / 256 := by
    show a.fdiv 256 = a / 256
    rw [Int.fdiv_eq_ediv_of_nonneg _ (by omega)]
  rw [e] at h; exact h
theorem R_add16 : R P (vbin .add t cx cy (u16 a) (u16 b)) (u16 ((a + b) % 65536)) := by have := R_add (P := P) .u16 t cx cy a b; rwa [wrap16] at this
theorem R_sub16 : R P (vbin .sub t cx cy (u16 a) (u16 b)) (u16 ((a - b) % 65536)) := by have := R_sub (P := P) .u16 t cx cy a b; rwa [wrap16] at this
theorem R_mul16 : R P (vbin .mul t cx cy (u16 a) (u16 b)) (u16 ((a * b) % 65536)) := by have := R_mul (P := P) .u16 t cx cy a b; rwa [wrap16] at this
theorem R_add16i (h : 0 ≤ a + b ∧ a + b < 65536) : R P (vbin .add t cx cy (u16 a) (u16 b)) (u16 (a + b)) := by have := R_add16 (P := P) (t := t) (cx := cx) (cy := cy) (a := a) (b := b); rwa [Int.emod_eq_of_lt h.1 h.2] at this
theorem R_sub16i (h : 0 ≤ a - b ∧ a - b < 65536) : R P (vbin .sub t cx cy (u16 a) (u16 b)) (u16 (a - b)) := by have := R_sub16 (P := P) (t := t) (cx := cx) (cy := cy) (a := a) (b := b); rwa [Int.emod_eq_of_lt h.1 h.2] at this
end
/-- the high byte alone -/
theorem and_ff00 (p : Nat) (h : p < 65536) : p &&& 65280 = p / 256 * 256 := by
  have : p &&& 65280 = (p >>> 8) <<< 8 := by
    apply Nat.eq_of_testBit_eq
    intro i
    rw [Nat.testBit_and, Nat.testBit_shiftLeft, Nat.testBit_shiftRight]
    by_cases h16 : i < 16
    · have e := (by decide : ∀ i : Fin 16, Nat.testBit 65280 i.val = decide (8 ≤ i.val)) ⟨i, h16⟩
      simp only at e
      rw [e]
      by_cases h8 : 8 ≤ i
      · have e2 : 8 + (i - 8) = i := by omega
        rw [e2]; simp [h8]
      · simp [h8]
    · have e1 : p.testBit i = false := Nat.testBit_lt_two_pow (Nat.lt_of_lt_of_le h (Nat.pow_le_pow_right (n := 2) (by omega) (show 16 ≤ i by omega)))
      rw [e1]
      have e2 : 8 + (i - 8) = i := by omega
      rw [e2, e1]; simp
  rw [this, Nat.shiftRight_eq_div_pow, Nat.shiftLeft_eq]
theorem and_ff (p : Nat) : p &&& 255 = p % 256 := Nat.and_two_pow_sub_one_eq_mod p 8
theorem or_low (h l : Nat) (hl : l < 256) : (h * 256) ||| l = h * 256 + l := by
  have := Nat.shiftLeft_add_eq_or_of_lt (b := l) (i := 8) hl h
  rw [Nat.shiftLeft_eq] at this
  exact this.symm
end Go.Sh
namespace Go.Sh
section
variable {P : Program} {v : Value} {w w' : World} {Kp : KP} {K : K0} {H : World → Prop} {X : Value → Prop}
/-! ### arrays -/
theorem R_arrA {t e : TypeId} {b o n sz : Nat} {k : IntKind} {i : Int} (hu : P.underlying t = some (.array n e)) (hs : sizeT P e = some sz) (h0 : 0 ≤ i) (h1 : i < n) :
    R P (vixA t (ptr b o) (.int k i)) (ptr b (o + i.toNat * sz)) := R_vv fun w => by
  unfold Instr.indexAt asIntOf Instr.sureAddr
  have hle : 0 ≤ i ∧ i < (n : Int) := ⟨h0, h1⟩
  simp [Sem.run_bind, Result.andThen, run_underlying hu, run_sizeOf_T hs, hle, Addr.add_mid]
theorem R_arrS {t e : TypeId} {b o n sz : Nat} (hu : P.underlying t = some (.array n e)) (hs : sizeT P e = some sz) :
    R P (vslice t (ptr b o) none none none) (sl b o n n) := R_vv fun w => by
  unfold Instr.sliceAt Instr.sureAddr
  simp [Sem.run_bind, Result.andThen, run_underlying hu, run_sizeOf_T hs, Instr.sliceBounds, Addr.add_mid]
/-- what lies at a place -/
structure At (cs : Array Value) (o : Nat) (v : Value) : Prop where
  eq : cs[o]? = some v
/-- a cell of a block, at whatever place -/
theorem S_loadX {t e : TypeId} {b o : Nat} {cs : Array Value} {fr : Nat × Nat} (ht : plainT P t = true) (hg : w.heap[b]? = some (.cells cs e fr)) (hv : At cs o v) (k : K v w) : S P (vload t (ptr b o)) w Kp K :=
  S_load ht (by rw [cell_of_row w b o cs e fr hg]; exact hv.eq) k
theorem Fl_loadX {t e : TypeId} {b o : Nat} {cs : Array Value} {fr : Nat × Nat} (ht : plainT P t = true) (hg : ∀ w, H w → w.heap[b]? = some (.cells cs e fr)) (hv : At cs o v) (k : X v) : Fl P H (vload t (ptr b o)) X :=
  Fl_run (fun w hw => run_loadAt ht (by rw [cell_of_row w b o cs e fr (hg w hw)]; exact hv.eq)) k
/-! ### maps keyed by integers; entries are only added -/
def entsFrom (j : IntKind) : Nat → List (Int × Value) → List MapEntry
  | _, [] => []
  | n, (c, v) :: l => ⟨.int j c, v, n⟩ :: entsFrom j (n + 1) l
abbrev mapOb (j : IntKind) (kvs : List (Int × Value)) : Obj := .map (entsFrom j 0 kvs).toArray kvs.length
theorem entsFrom_append (j : IntKind) (c : Int) (v : Value) : ∀ (l : List (Int × Value)) (n : Nat), entsFrom j n (l ++ [(c, v)]) = entsFrom j n l ++ [⟨.int j c, v, n + l.length⟩]
  | [], n => rfl
  | (a, u) :: l, n => by
    show _ :: entsFrom j (n + 1) (l ++ [(c, v)]) = _ :: (entsFrom j (n + 1) l ++ _)
    rw [entsFrom_append j c v l (n + 1), List.length_cons, Nat.add_right_comm]
    rfl
def mfind (c : Int) : List (Int × Value) → Option Value
  | [] => none
  | (a, u) :: l => if c = a then some u else mfind c l
theorem findNow_ents (j j' : IntKind) (c : Int) : ∀ (l : List (Int × Value)) (n i : Nat), ∃ r, Instr.findNow (.int j') (.int j c) (entsFrom j n l) i = some r ∧ r.map (·.2) = mfind c l
  | [], n, i => ⟨none, rfl, rfl⟩
  | (a, u) :: l, n, i => by
    unfold entsFrom Instr.findNow mfind
    by_cases h : c = a
    · subst h
      exact ⟨some (i, u), by simp [Instr.sameNow], by simp⟩
    · obtain ⟨r, h1, h2⟩ := findNow_ents j j' c l (n + 1) (i + 1)
      refine ⟨r, ?_, ?_⟩
      · simp only [Instr.sameNow, if_pos]
        rw [show (c == a) = false by simp [h]]
        exact h1
      · rw [if_neg h]; exact h2
theorem run_checkKey_int {kt : TypeId} {j : IntKind} {k : Value} {e : Bool} (hk : P.underlying kt = some (.int j)) (w : World) : (Instr.checkKey e 10000 kt k).run P w = .ok () w := by
  show (Instr.checkKey e (9999 + 1) kt k).run P w = .ok () w
  unfold Instr.checkKey
  rw [Sem.run_bind, run_underlying hk]
  rfl
theorem run_findKey {kt : TypeId} {j j' : IntKind} (hk : P.underlying kt = some (.int j')) (c : Int) (l : List (Int × Value)) (w : World) :
    ∃ r, (Instr.findKey kt (.int j c) (entsFrom j 0 l)).run P w = .ok r w ∧ r.map (·.2) = mfind c l := by
  obtain ⟨r, h1, h2⟩ := findNow_ents j j' c l 0 0
  refine ⟨r, ?_, h2⟩
  unfold Instr.findKey
  rw [Sem.run_bind, run_underlying hk]
  simp [Result.andThen, h1]
theorem run_zeroValue {t : TypeId} {z : Value} (hz : (P.info? t).bind (·.zero) = some z) (w : World) : (zeroValue t).run P w = .ok z w := by
  cases hi : P.info? t with
  | none => rw [hi] at hz; cases hz
  | some i =>
    rw [hi] at hz
    simp only [Option.bind_some] at hz
    simp [zeroValue, typeInfo, hi, hz]
/-- 'v, ok := m[k]' -/
theorem S_look2 {t kt et : TypeId} {j j' : IntKind} {g : Nat} {c : Int} {l : List (Int × Value)} {z : Value} (hu : P.underlying t = some (.map kt et)) (hk : P.underlying kt = some (.int j')) (hz : (P.info? et).bind (·.zero) = some z)
    (hg : w.heap[g]? = some (mapOb j l)) (k : K (.tuple #[(mfind c l).getD z, .bool (mfind c l).isSome]) w) : S P (vlook t (.map (some g)) (.int j c) true) w Kp K := by
  obtain ⟨r, h1, h2⟩ := run_findKey hk (j := j) c l w
  refine S_run (v := .tuple #[(mfind c l).getD z, .bool (mfind c l).isSome]) (w' := w) (run_vv ?_) k
  unfold Instr.lookup
  rw [← h2]
  cases r with
  | none => simp [Sem.run_bind, Result.andThen, run_underlying hu, MapKept.run_getObj_map hg, run_checkKey_int hk, h1, run_zeroValue hz]
  | some p => simp [Sem.run_bind, Result.andThen, run_underlying hu, MapKept.run_getObj_map hg, run_checkKey_int hk, h1]
theorem Fl_look2 {t kt et : TypeId} {j j' : IntKind} {g : Nat} {c : Int} {l : List (Int × Value)} {z : Value} (hu : P.underlying t = some (.map kt et)) (hk : P.underlying kt = some (.int j')) (hz : (P.info? et).bind (·.zero) = some z)
    (hg : ∀ w, H w → w.heap[g]? = some (mapOb j l)) (k : X (.tuple #[(mfind c l).getD z, .bool (mfind c l).isSome])) : Fl P H (vlook t (.map (some g)) (.int j c) true) X := by
  refine Fl_run (fun w hw => ?_) k
  obtain ⟨r, h1, h2⟩ := run_findKey hk (j := j) c l w
  refine run_vv ?_
  unfold Instr.lookup
  rw [← h2]
  cases r with
  | none => simp [Sem.run_bind, Result.andThen, run_underlying hu, MapKept.run_getObj_map (hg w hw), run_checkKey_int hk, h1, run_zeroValue hz]
  | some p => simp [Sem.run_bind, Result.andThen, run_underlying hu, MapKept.run_getObj_map (hg w hw), run_checkKey_int hk, h1]
theorem Fl_look2n {t kt et : TypeId} {j j' : IntKind} {g : Nat} {c : Int} {l : List (Int × Value)} {z : Value} (hu : P.underlying t = some (.map kt et)) (hk : P.underlying kt = some (.int j')) (hz : (P.info? et).bind (·.zero) = some z)
    (hg : ∀ w, H w → w.heap[g]? = some (mapOb j l)) (hf : mfind c l = none) (k : X (.tuple #[z, .bool false])) : Fl P H (vlook t (.map (some g)) (.int j c) true) X :=
  Fl_look2 hu hk hz hg (by rw [hf]; exact k)
theorem Fl_look2s {t kt et : TypeId} {j j' : IntKind} {g : Nat} {c : Int} {l : List (Int × Value)} {z : Value} (hu : P.underlying t = some (.map kt et)) (hk : P.underlying kt = some (.int j')) (hz : (P.info? et).bind (·.zero) = some z)
    (hg : ∀ w, H w → w.heap[g]? = some (mapOb j l)) (hf : mfind c l = some v) (k : X (.tuple #[v, .bool true])) : Fl P H (vlook t (.map (some g)) (.int j c) true) X :=
  Fl_look2 hu hk hz hg (by rw [hf]; exact k)
/-- 'm[k]', and k is there -/
theorem S_look1 {t kt et : TypeId} {j j' : IntKind} {g : Nat} {c : Int} {l : List (Int × Value)} (hu : P.underlying t = some (.map kt et)) (hk : P.underlying kt = some (.int j')) (hf : mfind c l = some v)
    (hg : w.heap[g]? = some (mapOb j l)) (k : K v w) : S P (vlook t (.map (some g)) (.int j c) false) w Kp K := by
  obtain ⟨r, h1, h2⟩ := run_findKey hk (j := j) c l w
  refine S_run (v := v) (w' := w) (run_vv ?_) k
  unfold Instr.lookup
  rw [hf] at h2
  cases r with
  | none => cases h2
  | some p =>
    simp only [Option.map_some, Option.some.injEq] at h2
    subst h2
    simp [Sem.run_bind, Result.andThen, run_underlying hu, MapKept.run_getObj_map hg, run_checkKey_int hk, h1]
/-- 'm[k] = v', and k is new -/
theorem S_mupdNew {t kt et : TypeId} {j j' : IntKind} {g : Nat} {c : Int} {l : List (Int × Value)} (hu : P.underlying t = some (.map kt et)) (hk : P.underlying kt = some (.int j')) (hf : mfind c l = none)
    (hg : w.heap[g]? = some (mapOb j l)) (k : K undef { w with heap := w.heap.setIfInBounds g (mapOb j (l ++ [(c, v)])) }) : S P (vmupd t (.map (some g)) (.int j c) v) w Kp K := by
  obtain ⟨r, h1, h2⟩ := run_findKey hk (j := j) c l w
  refine S_skip (w' := { w with heap := w.heap.setIfInBounds g (mapOb j (l ++ [(c, v)])) }) ?_ k
  unfold vmupd Instr.mapUpdate
  rw [hf] at h2
  cases r with
  | some p => cases h2
  | none =>
    have e : (entsFrom j 0 l).toArray.push ⟨.int j c, v, l.length⟩ = (entsFrom j 0 (l ++ [(c, v)])).toArray := by
      rw [entsFrom_append]; simp
    simp [Sem.run_bind, Result.andThen, run_underlying hu, MapKept.run_getObj_map hg, run_checkKey_int hk, h1, MapKept.run_setObj_map _ hg, mapOb, e]
theorem S_mkM {t : TypeId} (j : IntKind) (k : K (.map (some w.heap.size)) (w.alloc (mapOb j []))) : S P (vmkM t none) w Kp K := S_run (v := .map (some w.heap.size)) rfl k
theorem R_ext2_0 {a b : Value} : R P (vext (.tuple #[a, b]) 0) a := ⟨fun _ => rfl⟩
theorem R_ext2_1 {a b : Value} : R P (vext (.tuple #[a, b]) 1) b := ⟨fun _ => rfl⟩
/-! ### long rows of one value -/
/-- eats 2^d values that pass -/
def eats (p : Value → Bool) : Nat → List Value → Option (List Value)
  | 0, [] => none
  | 0, v :: l => match p v with | true => some l | false => none
  | d + 1, l => match eats p d l with | some r => eats p d r | none => none
theorem eats_spec {p : Value → Bool} : ∀ (d : Nat) (l r : List Value), eats p d l = some r → ∃ a, l = a ++ r ∧ a.length = 2 ^ d ∧ ∀ v ∈ a, p v = true
  | 0, [], r, h => by cases h
  | 0, v :: l, r, h => by
    unfold eats at h
    cases hp : p v with
    | false => rw [hp] at h; cases h
    | true =>
      rw [hp] at h
      simp only [Option.some.injEq] at h
      subst h
      exact ⟨[v], rfl, rfl, by simp [hp]⟩
  | d + 1, l, r, h => by
    unfold eats at h
    cases h1 : eats p d l with
    | none => rw [h1] at h; cases h
    | some m =>
      rw [h1] at h
      obtain ⟨a, rfl, ha, hpa⟩ := eats_spec d l m h1
      obtain ⟨b, rfl, hb, hpb⟩ := eats_spec d m r h
      exact ⟨a ++ b, by simp, by simp [ha, hb, Nat.pow_succ]; omega, fun v hv => by
        rcases List.mem_append.1 hv with hv | hv
        · exact hpa v hv
        · exact hpb v hv⟩
def isZ8 : Value → Bool
  | .int .u8 0 => true
  | _ => false
theorem isZ8_eq {v : Value} (h : isZ8 v = true) : v = u8 0 := by
  unfold isZ8 at h
  split at h
  · rfl
  · cases h
theorem eats_zeros {d : Nat} {l r : List Value} (h : eats isZ8 d l = some r) : l = List.replicate (2 ^ d) (u8 0) ++ r := by
  obtain ⟨a, rfl, ha, hp⟩ := eats_spec d l r h
  rw [← ha, List.eq_replicate_of_mem (fun v hv => isZ8_eq (hp v hv))]
  simp
end
end Go.Sh
namespace Go.Sh
section
variable {P : Program} {w : World} {K : K0} {t s d : TypeId} {cx cy : Bool} {j k : IntKind} {a b x : Int}
theorem K_int (e : a = b) (h : K (.int k a) w) : K (.int k b) w := e ▸ h
theorem R_toI64 (hs : P.underlying s = some (.int j)) (hd : P.underlying d = some (.int .i64)) (h : -9223372036854775808 ≤ x ∧ x < 9223372036854775808) : R P (vconv s d (.int j x)) (i64 x) := by
  have := R_conv (x := x) hs hd; rwa [wrap64_in h] at this
theorem R_toU8i (hs : P.underlying s = some (.int j)) (hd : P.underlying d = some (.int .u8)) (h : 0 ≤ x ∧ x < 256) : R P (vconv s d (.int j x)) (u8 x) := by
  have := R_conv (x := x) hs hd; rwa [wrap8, Int.emod_eq_of_lt h.1 h.2] at this
theorem R_toU8 (hs : P.underlying s = some (.int j)) (hd : P.underlying d = some (.int .u8)) : R P (vconv s d (.int j x)) (u8 (x % 256)) := by
  have := R_conv (x := x) hs hd; rwa [wrap8] at this
theorem R_toU16i (hs : P.underlying s = some (.int j)) (hd : P.underlying d = some (.int .u16)) (h : 0 ≤ x ∧ x < 65536) : R P (vconv s d (.int j x)) (u16 x) := by
  have := R_conv (x := x) hs hd; rwa [wrap16, Int.emod_eq_of_lt h.1 h.2] at this
theorem R_toU16 (hs : P.underlying s = some (.int j)) (hd : P.underlying d = some (.int .u16)) : R P (vconv s d (.int j x)) (u16 (x % 65536)) := by
  have := R_conv (x := x) hs hd; rwa [wrap16] at this
theorem R_remU (h0 : 0 ≤ a ∧ a < 256) (h1 : 0 < b) : R P (vbin .rem t cx cy (u8 a) (u8 b)) (u8 (a % b)) := by
  have := R_rem (P := P) .u8 t cx cy a b (by omega)
  rwa [Int.tmod_eq_emod_of_nonneg h0.1] at this
theorem R_quo16 (h0 : 0 ≤ a ∧ a < 65536) (h1 : 0 < b) : R P (vbin .quo t cx cy (u16 a) (u16 b)) (u16 (a / b)) := by
  have := R_quo (P := P) .u16 t cx cy a b (by omega)
  have h2 : 0 ≤ a / b := Int.ediv_nonneg h0.1 (by omega)
  have h3 : a / b ≤ a := Int.ediv_le_self b h0.1
  rwa [Int.tdiv_eq_ediv_of_nonneg h0.1, wrap16, Int.emod_eq_of_lt h2 (by omega)] at this
theorem R_rem16 (h0 : 0 ≤ a ∧ a < 65536) : R P (vbin .rem t cx cy (u16 a) (u16 256)) (u16 (a % 256)) := by
  have := R_rem (P := P) .u16 t cx cy a 256 (by omega)
  rwa [Int.tmod_eq_emod_of_nonneg h0.1] at this
theorem R_andHi (h : 0 ≤ a ∧ a < 65536) : R P (vbin .and t cx cy (u16 a) (u16 65280)) (u16 (a / 256 * 256)) := by
  have := R_and16 (P := P) (t := t) (cx := cx) (cy := cy) h (b := 65280) (by omega)
  have e := and_ff00 a.toNat (by omega)
  rw [show (65280 : Int).toNat = 65280 from rfl, e] at this
  rwa [show ((a.toNat / 256 * 256 : Nat) : Int) = a / 256 * 256 by omega] at this
theorem R_andLo (h : 0 ≤ a ∧ a < 65536) : R P (vbin .and t cx cy (u16 a) (u16 255)) (u16 (a % 256)) := by
  have := R_and16 (P := P) (t := t) (cx := cx) (cy := cy) h (b := 255) (by omega)
  rw [show (255 : Int).toNat = 255 from rfl, and_ff a.toNat] at this
  rwa [show ((a.toNat % 256 : Nat) : Int) = a % 256 by omega] at this
theorem R_orHi (h : 0 ≤ a ∧ a < 65536 ∧ a % 256 = 0) (h2 : 0 ≤ b ∧ b < 256) : R P (vbin .or t cx cy (u16 a) (u16 b)) (u16 (a + b)) := by
  have := R_or16 (P := P) (t := t) (cx := cx) (cy := cy) (a := a) (b := b) (by omega) (by omega)
  have e := or_low (a.toNat / 256) b.toNat (by omega)
  rw [show a.toNat / 256 * 256 = a.toNat by omega] at e
  rw [e] at this
  rwa [show ((a.toNat + b.toNat : Nat) : Int) = a + b by omega] at this
theorem R_orLo (h : 0 ≤ b ∧ b < 65536 ∧ b % 256 = 0) (h2 : 0 ≤ a ∧ a < 256) : R P (vbin .or t cx cy (u16 a) (u16 b)) (u16 (a + b)) := by
  have := R_or16 (P := P) (t := t) (cx := cx) (cy := cy) (a := a) (b := b) (by omega) (by omega)
  have e := or_low (b.toNat / 256) a.toNat (by omega)
  rw [show b.toNat / 256 * 256 = b.toNat by omega, Nat.or_comm] at e
  rw [e] at this
  rwa [show ((b.toNat + a.toNat : Nat) : Int) = a + b by omega] at this
end
end Go.Sh
namespace Go.Sh
def fset (f : Nat → Int) (i : Nat) (x : Int) : Nat → Int := fun j => if j = i then x else f j
theorem fset_same (f : Nat → Int) (i : Nat) (x : Int) : fset f i x i = x := by simp [fset]
theorem fset_ne {f : Nat → Int} {i j : Nat} {x : Int} (h : j ≠ i) : fset f i x j = f j := by simp [fset, h]
structure Mem where
  banks : List (Int × (Nat → Int))
  ram : Nat → Int
  scr : Nat → Int
  chosen : Int
  pad : Int
  vol : Int
  pitch : Int
  time : Int
  cyc : Int
  tones : List (Int × Int × Int)
def isB (x : Int) : Prop := 0 ≤ x ∧ x < 256
def isC (x : Int) : Prop := 0 ≤ x ∧ x < 65536
def bankOf (c : Int) : List (Int × (Nat → Int)) → Option (Nat → Int)
  | [] => none
  | (n, f) :: l => if c = n then some f else bankOf c l
def setBank (c : Int) (g : (Nat → Int) → (Nat → Int)) : List (Int × (Nat → Int)) → List (Int × (Nat → Int))
  | [] => []
  | (n, f) :: l => if c = n then (n, g f) :: l else (n, f) :: setBank c g l
structure Mem.Ok (M : Mem) : Prop where
  banks : ∀ p ∈ M.banks, (0 ≤ p.1 ∧ p.1 < 16) ∧ ∀ i, isB (p.2 i)
  sorted : M.banks.Pairwise (fun p q => p.1 < q.1)
  ram : ∀ i, isB (M.ram i)
  scr : ∀ i, isB (M.scr i)
  chosen : 0 ≤ M.chosen ∧ M.chosen < 16
  pad : isB M.pad
  vol : isB M.vol
  pitch : isC M.pitch
  time : isC M.time
  cyc : -9223372036854775808 ≤ M.cyc ∧ M.cyc < 9223372036854775808
def Mem.load (M : Mem) (a : Int) : Int :=
  if a < 16384 then 0
  else if a < 32768 then (match bankOf M.chosen M.banks with | some f => f (a - 16384).toNat | none => 0)
  else if a < 49152 then M.ram (a - 32768).toNat
  else if a < 52224 then M.scr (a - 49152).toNat
  else if a = 65280 then M.chosen
  else if a = 65282 then M.pad
  else if a = 65284 then M.pitch % 256
  else if a = 65285 then M.pitch / 256
  else if a = 65286 then M.vol
  else if a = 65288 then M.time % 256
  else if a = 65289 then M.time / 256
  else 0
def Mem.cell (M : Mem) (a : Int) : Int := M.load a + 256 * M.load ((a + 1) % 65536)
def Mem.store (M : Mem) (a x : Int) : Mem :=
  if a < 16384 then M
  else if a < 32768 then { M with banks := setBank M.chosen (fun f => fset f (a - 16384).toNat x) M.banks }
  else if a < 49152 then { M with ram := fset M.ram (a - 32768).toNat x }
  else if a < 52224 then { M with scr := fset M.scr (a - 49152).toNat x }
  else if a = 65280 then { M with chosen := x % 16 }
  else if a = 65284 then { M with pitch := M.pitch / 256 * 256 + x }
  else if a = 65285 then { M with pitch := M.pitch % 256 + 256 * x }
  else if a = 65286 then { M with vol := x, tones := M.tones ++ [(M.cyc, M.pitch, x)] }
  else M
def Mem.setCell (M : Mem) (a x : Int) : Mem := (M.store a (x % 256)).store ((a + 1) % 65536) (x / 256)
def Mem.plot (M : Mem) (x y c : Int) : Mem := if x < 64 ∧ y < 48 then M.store (49152 + 64 * y + x) (c % 256) else M
def Mem.play (M : Mem) (p v : Int) : Mem := (M.setCell 65284 p).store 65286 v
def Mem.choose (M : Mem) (n : Int) : Mem := M.store 65280 (n % 256)
def Mem.begin (M : Mem) (p : Int) : Mem := { M with pad := p, time := (M.time + 1) % 65536, cyc := 0, tones := [] }
def Mem.at (M : Mem) (c : Int) : Mem := { M with cyc := c }
section
variable {M : Mem} {a x : Int}
theorem Mem.load_low (h : a < 16384) : M.load a = 0 := by unfold Mem.load; rw [if_pos h]
theorem Mem.load_bank (h1 : ¬ a < 16384) (h2 : a < 32768) : M.load a = (match bankOf M.chosen M.banks with | some f => f (a - 16384).toNat | none => 0) := by unfold Mem.load; rw [if_neg h1, if_pos h2]
theorem Mem.load_ram (h1 : ¬ a < 32768) (h2 : a < 49152) : M.load a = M.ram (a - 32768).toNat := by unfold Mem.load; rw [if_neg (by omega), if_neg h1, if_pos h2]
theorem Mem.load_scr (h1 : ¬ a < 49152) (h2 : a < 52224) : M.load a = M.scr (a - 49152).toNat := by unfold Mem.load; rw [if_neg (by omega), if_neg (by omega), if_neg h1, if_pos h2]
theorem Mem.load_port (h1 : ¬ a < 52224) : M.load a = if a = 65280 then M.chosen else if a = 65282 then M.pad else if a = 65284 then M.pitch % 256 else if a = 65285 then M.pitch / 256 else if a = 65286 then M.vol else if a = 65288 then M.time % 256 else if a = 65289 then M.time / 256 else 0 := by
  unfold Mem.load; rw [if_neg (by omega), if_neg (by omega), if_neg (by omega), if_neg h1]
theorem Mem.store_low (h : a < 16384) : M.store a x = M := by unfold Mem.store; rw [if_pos h]
theorem Mem.store_bank (h1 : ¬ a < 16384) (h2 : a < 32768) : M.store a x = { M with banks := setBank M.chosen (fun f => fset f (a - 16384).toNat x) M.banks } := by unfold Mem.store; rw [if_neg h1, if_pos h2]
theorem Mem.store_ram (h1 : ¬ a < 32768) (h2 : a < 49152) : M.store a x = { M with ram := fset M.ram (a - 32768).toNat x } := by unfold Mem.store; rw [if_neg (by omega), if_neg h1, if_pos h2]
theorem Mem.store_scr (h1 : ¬ a < 49152) (h2 : a < 52224) : M.store a x = { M with scr := fset M.scr (a - 49152).toNat x } := by unfold Mem.store; rw [if_neg (by omega), if_neg (by omega), if_neg h1, if_pos h2]
theorem Mem.store_port (h1 : ¬ a < 52224) : M.store a x = if a = 65280 then { M with chosen := x % 16 } else if a = 65284 then { M with pitch := M.pitch / 256 * 256 + x } else if a = 65285 then { M with pitch := M.pitch % 256 + 256 * x } else if a = 65286 then { M with vol := x, tones := M.tones ++ [(M.cyc, M.pitch, x)] } else M := by
  unfold Mem.store; rw [if_neg (by omega), if_neg (by omega), if_neg (by omega), if_neg h1]
end
theorem bankOf_mem {c : Int} {f : Nat → Int} : ∀ {l : List (Int × (Nat → Int))}, bankOf c l = some f → (c, f) ∈ l
  | (n, g) :: l, h => by
    unfold bankOf at h
    split at h
    · rename_i e; simp only [Option.some.injEq] at h; subst e; subst h; simp
    · exact List.mem_cons_of_mem _ (bankOf_mem h)
theorem setBank_mem {c : Int} {g : (Nat → Int) → (Nat → Int)} {p : Int × (Nat → Int)} : ∀ {l : List (Int × (Nat → Int))}, p ∈ setBank c g l → p ∈ l ∨ ∃ f, (p.1, f) ∈ l ∧ p.2 = g f
  | (n, f) :: l, h => by
    unfold setBank at h
    split at h
    · rcases List.mem_cons.1 h with rfl | h
      · exact .inr ⟨f, by simp, rfl⟩
      · exact .inl (List.mem_cons_of_mem _ h)
    · rcases List.mem_cons.1 h with rfl | h
      · exact .inl (by simp)
      · rcases setBank_mem h with h | ⟨f', h, e⟩
        · exact .inl (List.mem_cons_of_mem _ h)
        · exact .inr ⟨f', List.mem_cons_of_mem _ h, e⟩
theorem setBank_keys (c : Int) (g : (Nat → Int) → (Nat → Int)) : ∀ (l : List (Int × (Nat → Int))), (setBank c g l).map (·.1) = l.map (·.1)
  | [] => rfl
  | (n, f) :: l => by
    unfold setBank
    split
    · rfl
    · simp [setBank_keys c g l]
theorem fset_isB {f : Nat → Int} {i : Nat} {x : Int} (hf : ∀ i, isB (f i)) (hx : isB x) : ∀ j, isB (fset f i x j) := by
  intro j; unfold fset; split
  · exact hx
  · exact hf j
theorem Mem.Ok.store {M : Mem} (h : M.Ok) {a x : Int} (hx : isB x) : (M.store a x).Ok := by
  unfold Mem.store
  split; · exact h
  split
  · refine { h with banks := fun p hp => ?_, sorted := ?_ }
    · rcases setBank_mem hp with hp | ⟨f, hp, e⟩
      · exact h.banks p hp
      · exact ⟨(h.banks _ hp).1, by rw [e]; exact fset_isB (h.banks _ hp).2 hx⟩
    · have := h.sorted
      rw [← List.pairwise_map (f := Prod.fst) (R := fun a b : Int => a < b)] at this ⊢
      rw [setBank_keys]; exact this
  split; · exact { h with ram := fset_isB h.ram hx }
  split; · exact { h with scr := fset_isB h.scr hx }
  unfold isB at hx
  have hp := h.pitch
  unfold isC at hp
  split; · exact { h with chosen := ⟨by show 0 ≤ x % 16; omega, by show x % 16 < 16; omega⟩ }
  split; · exact { h with pitch := ⟨by show 0 ≤ M.pitch / 256 * 256 + x; omega, by show M.pitch / 256 * 256 + x < 65536; omega⟩ }
  split; · exact { h with pitch := ⟨by show 0 ≤ M.pitch % 256 + 256 * x; omega, by show M.pitch % 256 + 256 * x < 65536; omega⟩ }
  split; · exact { h with vol := hx }
  exact h
theorem Mem.Ok.loadB {M : Mem} (h : M.Ok) (a : Int) : isB (M.load a) := by
  unfold Mem.load
  have z : isB 0 := by unfold isB; omega
  split; · exact z
  split
  · split
    · rename_i f hf; exact (h.banks _ (bankOf_mem hf)).2 _
    · exact z
  split; · exact h.ram _
  split; · exact h.scr _
  have hp := h.pitch
  have ht := h.time
  have hc := h.chosen
  unfold isC at hp ht
  split; · unfold isB; omega
  split; · exact h.pad
  split; · unfold isB; omega
  split; · unfold isB; omega
  split; · exact h.vol
  split; · unfold isB; omega
  split; · unfold isB; omega
  exact z
theorem Mem.Ok.cellC {M : Mem} (h : M.Ok) (a : Int) : isC (M.cell a) := by
  have h1 := h.loadB a
  have h2 := h.loadB ((a + 1) % 65536)
  unfold isB at h1 h2
  unfold isC Mem.cell
  omega
theorem Mem.Ok.setCell {M : Mem} (h : M.Ok) {a x : Int} (hx : isC x) : (M.setCell a x).Ok := by
  unfold isC at hx
  exact (h.store (by unfold isB; omega)).store (by unfold isB; omega)
theorem Mem.tones_store (M : Mem) (a x : Int) : (M.store a x).tones.length ≤ M.tones.length + 1 := by
  unfold Mem.store
  repeat' split
  all_goals simp
end Go.Sh
namespace Go.Sh
def bytes (n : Nat) (f : Nat → Int) : List Value := (List.range n).map fun i => u8 (f i)
@[simp] theorem bytes_len (n : Nat) (f : Nat → Int) : (bytes n f).length = n := by simp [bytes]
theorem bytes_get {n i : Nat} (f : Nat → Int) (h : i < n) : (bytes n f)[i]? = some (u8 (f i)) := by simp [bytes, h]
theorem bytes_set {n i : Nat} (f : Nat → Int) (x : Int) : (bytes n f).set i (u8 x) = bytes n (fset f i x) := by
  apply List.ext_getElem?
  intro j
  rw [List.getElem?_set]
  by_cases hij : i = j
  · subst hij
    rw [if_pos rfl, bytes_len]
    by_cases hi : i < n
    · rw [if_pos hi, bytes_get _ hi, fset_same]
    · rw [if_neg hi]; simp [bytes, hi]
  · rw [if_neg hij]
    by_cases hj : j < n
    · rw [bytes_get _ hj, bytes_get _ hj, fset_ne (fun e => hij e.symm)]
    · simp [bytes, hj]
theorem bytes_zero (n : Nat) : List.replicate n (u8 0) = bytes n (fun _ => 0) := by
  rw [eq_comm, List.eq_replicate_iff]; simp [bytes]
def toneCells : List (Int × Int × Int) → List Value
  | [] => []
  | (c, p, v) :: l => i64 c :: u16 p :: u8 v :: toneCells l
theorem toneCells_append : ∀ (l m : List (Int × Int × Int)), toneCells (l ++ m) = toneCells l ++ toneCells m
  | [], m => rfl
  | (c, p, v) :: l, m => by
    show _ :: _ :: _ :: toneCells (l ++ m) = _
    rw [toneCells_append l m]; rfl
theorem toneCells_len : ∀ (l : List (Int × Int × Int)), (toneCells l).length = l.length * 3
  | [] => rfl
  | (c, p, v) :: l => by
    show (toneCells l).length + 1 + 1 + 1 = (l.length + 1) * 3
    rw [toneCells_len l]; omega
theorem toneCells_one : ∀ (l : List (Int × Int × Int)), ∀ u ∈ toneCells l, u.oneCell' = true
  | [], u, h => by cases h
  | (c, p, v) :: l, u, h => by
    unfold toneCells at h
    rcases List.mem_cons.1 h with rfl | h; · rfl
    rcases List.mem_cons.1 h with rfl | h; · rfl
    rcases List.mem_cons.1 h with rfl | h; · rfl
    exact toneCells_one l u h
def memTail (M : Mem) (tv : Value) : List Value := [u8 M.chosen, u8 M.pad, u8 M.vol, u16 M.pitch, u16 M.time, i64 M.cyc, tv]
def memCells (mb : Nat) (M : Mem) (tv : Value) : List Value := .map (some mb) :: (bytes 16384 M.ram ++ (bytes 3072 M.scr ++ memTail M tv))
section
variable {mb : Nat} {M : Mem} {tv : Value}
theorem memCells_len : (memCells mb M tv).length = 19464 := by
  rw [memCells, List.length_cons, List.length_append, bytes_len, List.length_append, bytes_len]
  simp only [memTail, List.length_cons, List.length_nil]
theorem memCells_map : (memCells mb M tv)[0]? = some (.map (some mb)) := by unfold memCells; exact List.getElem?_cons_zero
theorem memCells_ram {i : Nat} (h : i < 16384) : (memCells mb M tv)[1 + i]? = some (u8 (M.ram i)) := by
  rw [memCells, Nat.add_comm, List.getElem?_cons_succ, List.getElem?_append_left (by simpa using h), bytes_get _ h]
theorem memCells_scr {i : Nat} (h : i < 3072) : (memCells mb M tv)[16385 + i]? = some (u8 (M.scr i)) := by
  rw [memCells, show 16385 + i = (16384 + i) + 1 by omega, List.getElem?_cons_succ, List.getElem?_append_right (by simp), bytes_len, Nat.add_sub_cancel_left, List.getElem?_append_left (by simpa using h), bytes_get _ h]
theorem memCells_tail (i : Nat) : (memCells mb M tv)[19457 + i]? = (memTail M tv)[i]? := by
  rw [memCells, show 19457 + i = (16384 + (3072 + i)) + 1 by omega, List.getElem?_cons_succ, List.getElem?_append_right (by simp), bytes_len, Nat.add_sub_cancel_left, List.getElem?_append_right (by simp), bytes_len, Nat.add_sub_cancel_left]
theorem memCells_setRam {i : Nat} (x : Int) (h : i < 16384) : (memCells mb M tv).set (1 + i) (u8 x) = memCells mb { M with ram := fset M.ram i x } tv := by
  rw [memCells, Nat.add_comm, List.set_cons_succ, List.set_append_left _ _ (by simpa using h), bytes_set]; rfl
theorem memCells_setScr {i : Nat} (x : Int) (h : i < 3072) : (memCells mb M tv).set (16385 + i) (u8 x) = memCells mb { M with scr := fset M.scr i x } tv := by
  rw [memCells, show 16385 + i = (16384 + i) + 1 by omega, List.set_cons_succ, List.set_append_right _ _ (by simp), bytes_len, Nat.add_sub_cancel_left, List.set_append_left _ _ (by simpa using h), bytes_set]; rfl
theorem memCells_setTail {M' : Mem} {tv' : Value} (i : Nat) (x : Value) (h1 : M'.ram = M.ram) (h2 : M'.scr = M.scr) (h3 : (memTail M tv).set i x = memTail M' tv') : (memCells mb M tv).set (19457 + i) x = memCells mb M' tv' := by
  rw [memCells, show 19457 + i = (16384 + (3072 + i)) + 1 by omega, List.set_cons_succ, List.set_append_right _ _ (by simp), bytes_len, Nat.add_sub_cancel_left, List.set_append_right _ _ (by simp), bytes_len, Nat.add_sub_cancel_left, h3, memCells, h1, h2]
theorem memCells_ramE {i n : Nat} (e : n = 1 + i) (h : i < 16384) : At (memCells mb M tv).toArray (n) (u8 (M.ram i)) := ⟨by rw [e, List.getElem?_toArray]; exact memCells_ram h⟩
theorem memCells_scrE {i n : Nat} (e : n = 16385 + i) (h : i < 3072) : At (memCells mb M tv).toArray (n) (u8 (M.scr i)) := ⟨by rw [e, List.getElem?_toArray]; exact memCells_scr h⟩
theorem memF_map : At (memCells mb M tv).toArray (0) (.map (some mb)) := ⟨by rw [List.getElem?_toArray]; exact memCells_map⟩
theorem memF_chosen : At (memCells mb M tv).toArray (0 + 19457) (u8 M.chosen) := ⟨by rw [List.getElem?_toArray, Nat.zero_add]; exact (memCells_tail 0).trans rfl⟩
theorem memF_pad : At (memCells mb M tv).toArray (0 + 19458) (u8 M.pad) := ⟨by rw [List.getElem?_toArray, Nat.zero_add]; exact (memCells_tail 1).trans rfl⟩
theorem memF_vol : At (memCells mb M tv).toArray (0 + 19459) (u8 M.vol) := ⟨by rw [List.getElem?_toArray, Nat.zero_add]; exact (memCells_tail 2).trans rfl⟩
theorem memF_pitch : At (memCells mb M tv).toArray (0 + 19460) (u16 M.pitch) := ⟨by rw [List.getElem?_toArray, Nat.zero_add]; exact (memCells_tail 3).trans rfl⟩
theorem memF_time : At (memCells mb M tv).toArray (0 + 19461) (u16 M.time) := ⟨by rw [List.getElem?_toArray, Nat.zero_add]; exact (memCells_tail 4).trans rfl⟩
theorem memF_cyc : At (memCells mb M tv).toArray (0 + 19462) (i64 M.cyc) := ⟨by rw [List.getElem?_toArray, Nat.zero_add]; exact (memCells_tail 5).trans rfl⟩
theorem memF_tones : At (memCells mb M tv).toArray (0 + 19463) tv := ⟨by rw [List.getElem?_toArray, Nat.zero_add]; exact (memCells_tail 6).trans rfl⟩
theorem bytes_getE {n i m : Nat} (f : Nat → Int) (e : m = i) (h : i < n) : At (bytes n f).toArray (m) (u8 (f i)) := ⟨by rw [e, List.getElem?_toArray]; exact bytes_get f h⟩
theorem mem_size : (memCells mb M tv).toArray.size = 19464 := by rw [List.size_toArray, memCells_len]
theorem mem_setRam {i n : Nat} (x : Int) (e : n = 1 + i) (h : i < 16384) : (memCells mb M tv).toArray.setIfInBounds n (u8 x) = (memCells mb { M with ram := fset M.ram i x } tv).toArray := by
  rw [e, List.setIfInBounds_toArray, memCells_setRam x h]
theorem mem_setScr {i n : Nat} (x : Int) (e : n = 16385 + i) (h : i < 3072) : (memCells mb M tv).toArray.setIfInBounds n (u8 x) = (memCells mb { M with scr := fset M.scr i x } tv).toArray := by
  rw [e, List.setIfInBounds_toArray, memCells_setScr x h]
theorem mem_setTail {M' : Mem} {tv' : Value} {n : Nat} (i : Nat) (x : Value) (e : n = 19457 + i) (h1 : M'.ram = M.ram) (h2 : M'.scr = M.scr) (h3 : (memTail M tv).set i x = memTail M' tv') : (memCells mb M tv).toArray.setIfInBounds n x = (memCells mb M' tv').toArray := by
  rw [e, List.setIfInBounds_toArray, memCells_setTail i x h1 h2 h3]
theorem mem_set_chosen (x : Int) : (memCells mb M tv).toArray.setIfInBounds (0 + 19457) (u8 x) = (memCells mb { M with chosen := x } tv).toArray := mem_setTail (M := M) (M' := { M with chosen := x }) (tv := tv) (tv' := tv) 0 (u8 x) (by omega) rfl rfl rfl
theorem mem_set_pad (x : Int) : (memCells mb M tv).toArray.setIfInBounds (0 + 19458) (u8 x) = (memCells mb { M with pad := x } tv).toArray := mem_setTail (M := M) (M' := { M with pad := x }) (tv := tv) (tv' := tv) 1 (u8 x) (by omega) rfl rfl rfl
theorem mem_set_vol (x : Int) : (memCells mb M tv).toArray.setIfInBounds (0 + 19459) (u8 x) = (memCells mb { M with vol := x } tv).toArray := mem_setTail (M := M) (M' := { M with vol := x }) (tv := tv) (tv' := tv) 2 (u8 x) (by omega) rfl rfl rfl
theorem mem_set_pitch (x : Int) : (memCells mb M tv).toArray.setIfInBounds (0 + 19460) (u16 x) = (memCells mb { M with pitch := x } tv).toArray := mem_setTail (M := M) (M' := { M with pitch := x }) (tv := tv) (tv' := tv) 3 (u16 x) (by omega) rfl rfl rfl
theorem mem_set_time (x : Int) : (memCells mb M tv).toArray.setIfInBounds (0 + 19461) (u16 x) = (memCells mb { M with time := x } tv).toArray := mem_setTail (M := M) (M' := { M with time := x }) (tv := tv) (tv' := tv) 4 (u16 x) (by omega) rfl rfl rfl
theorem mem_set_cyc (x : Int) : (memCells mb M tv).toArray.setIfInBounds (0 + 19462) (i64 x) = (memCells mb { M with cyc := x } tv).toArray := mem_setTail (M := M) (M' := { M with cyc := x }) (tv := tv) (tv' := tv) 5 (i64 x) (by omega) rfl rfl rfl
theorem mem_set_tones (v : Value) : (memCells mb M tv).toArray.setIfInBounds (0 + 19463) v = (memCells mb M v).toArray := mem_setTail (M := M) (M' := M) (tv := tv) (tv' := v) 6 v (by omega) rfl rfl rfl
end
/-! ### banks -/
def BanksAt (tb : Nat) (w : World) : List (Int × (Nat → Int)) → List Nat → Prop
  | [], [] => True
  | (_, f) :: l, b :: bl => w.heap[b]? = some (.cells (bytes 16384 f).toArray tb (0, 0)) ∧ BanksAt tb w l bl
  | _, _ => False
def kvs : List (Int × (Nat → Int)) → List Nat → List (Int × Value)
  | (n, _) :: l, b :: bl => (n, ptr b 0) :: kvs l bl
  | _, _ => []
theorem BanksAt.same {tb : Nat} {w w' : World} : ∀ {l : List (Int × (Nat → Int))} {bl : List Nat}, BanksAt tb w l bl → (∀ j ∈ bl, w'.heap[j]? = w.heap[j]?) → BanksAt tb w' l bl
  | [], [], _, _ => trivial
  | (n, f) :: l, b :: bl, h, hs => ⟨by rw [hs b (by simp)]; exact h.1, BanksAt.same h.2 (fun j hj => hs j (by simp [hj]))⟩
theorem BanksAt.none {tb : Nat} {w : World} {c : Int} : ∀ {l : List (Int × (Nat → Int))} {bl : List Nat}, BanksAt tb w l bl → bankOf c l = none → mfind c (kvs l bl) = none
  | [], [], _, _ => rfl
  | (n, f) :: l, b :: bl, h, hn => by
    unfold bankOf at hn
    unfold kvs mfind
    split at hn
    · cases hn
    · rename_i e; rw [if_neg e]; exact BanksAt.none h.2 hn
theorem BanksAt.some {tb : Nat} {w : World} {c : Int} {f : Nat → Int} : ∀ {l : List (Int × (Nat → Int))} {bl : List Nat}, BanksAt tb w l bl → bankOf c l = some f →
    ∃ b, b ∈ bl ∧ mfind c (kvs l bl) = Option.some (ptr b 0) ∧ w.heap[b]? = Option.some (.cells (bytes 16384 f).toArray tb (0, 0)) ∧
      (bl.Nodup → ∀ (g : (Nat → Int) → (Nat → Int)) (w' : World), w'.heap[b]? = Option.some (.cells (bytes 16384 (g f)).toArray tb (0, 0)) → (∀ j ∈ bl, j ≠ b → w'.heap[j]? = w.heap[j]?) → BanksAt tb w' (setBank c g l) bl)
  | [], [], _, h => by cases h
  | (n, f') :: l, b :: bl, h, hn => by
    unfold bankOf at hn
    unfold kvs mfind
    split at hn
    · rename_i e
      simp only [Option.some.injEq] at hn
      subst hn
      refine ⟨b, by simp, if_pos e, h.1, fun hnd g w' h1 h2 => ?_⟩
      unfold setBank
      rw [if_pos e]
      have := List.nodup_cons.1 hnd
      exact ⟨h1, BanksAt.same h.2 (fun j hj => h2 j (by simp [hj]) (fun e' => this.1 (e' ▸ hj)))⟩
    · rename_i e
      obtain ⟨b', hb, h1, h2, h3⟩ := BanksAt.some h.2 hn
      refine ⟨b', by simp [hb], by rw [if_neg e]; exact h1, h2, fun hnd g w' h4 h5 => ?_⟩
      have hd := List.nodup_cons.1 hnd
      unfold setBank
      rw [if_neg e]
      exact ⟨by rw [h5 b (by simp) (fun e' => hd.1 (e' ▸ hb))]; exact h.1, h3 hd.2 g w' h4 (fun j hj hne => h5 j (by simp [hj]) hne)⟩
theorem kvs_setBank (c : Int) (g : (Nat → Int) → (Nat → Int)) : ∀ (l : List (Int × (Nat → Int))) (bl : List Nat), kvs (setBank c g l) bl = kvs l bl
  | [], bl => by cases bl <;> rfl
  | (n, f) :: l, [] => by unfold setBank; split <;> rfl
  | (n, f) :: l, b :: bl => by
    unfold setBank
    split
    · rfl
    · unfold kvs; rw [kvs_setBank c g l bl]
theorem setBank_none {c : Int} {g : (Nat → Int) → (Nat → Int)} : ∀ {l : List (Int × (Nat → Int))}, bankOf c l = none → setBank c g l = l
  | [], _ => rfl
  | (n, f) :: l, h => by
    unfold bankOf at h
    unfold setBank
    split at h
    · cases h
    · rename_i e; rw [if_neg e, setBank_none h]
/-! ### the object -/
structure MemAt (tm tb tt : Nat) (w : World) (d mb : Nat) (bl : List Nat) (tv : Value) (M : Mem) : Prop where
  cells : w.heap[d]? = some (.cells (memCells mb M tv).toArray tm (0, 0))
  map : w.heap[mb]? = some (mapOb .u8 (kvs M.banks bl))
  banks : BanksAt tb w M.banks bl
  own : w.ownsRow 0 tt 3 tv M.tones.length (toneCells M.tones)
  nodup : (d :: mb :: (bl ++ tv.ownBlock.toList)).Nodup
  ok : M.Ok
theorem MemAt.same {tm tb tt : Nat} {w w' : World} {d mb : Nat} {bl : List Nat} {tv : Value} {M : Mem} (h : MemAt tm tb tt w d mb bl tv M) (hs : ∀ j ∈ d :: mb :: (bl ++ tv.ownBlock.toList), w'.heap[j]? = w.heap[j]?) : MemAt tm tb tt w' d mb bl tv M := by
  refine ⟨by rw [hs d (by simp)]; exact h.cells, by rw [hs mb (by simp)]; exact h.map, h.banks.same (fun j hj => hs j (by simp [hj])), ⟨h.own.1, ?_⟩, h.nodup, h.ok⟩
  rcases h.own.2 with hn | ⟨g, cap, cur, rfl, hb, hg, rest⟩
  · exact .inl hn
  · exact .inr ⟨g, cap, cur, rfl, hb, by rw [hs g (by simp [Value.ownBlock])]; exact hg, rest⟩
def memO (tm tb tt : Nat) (M : Mem) : Ob where
  rep d fp w := ∃ mb bl tv, MemAt tm tb tt w d mb bl tv M ∧ fp = d :: mb :: (bl ++ tv.ownBlock.toList)
  loc := by
    rintro d fp w w' ⟨mb, bl, tv, h, rfl⟩ hs
    exact ⟨mb, bl, tv, h.same hs, rfl⟩
theorem Rep.mem {B : Nat} {w0 : World} {T : Store} {w : World} {tm tb tt d : Nat} {M : Mem} (h : Rep B w0 T w) (hT : T d = some (memO tm tb tt M)) :
    ∃ mb bl tv, MemAt tm tb tt w d mb bl tv M ∧ (∀ j ∈ d :: mb :: (bl ++ tv.ownBlock.toList), j < w.heap.size) ∧
      (∀ M', M'.banks = M.banks → M'.tones = M.tones → M'.Ok → Rep B w0 (upT T d (memO tm tb tt M')) (w.setRow d (memCells mb M' tv).toArray)) ∧
      (∀ b g f, bankOf M.chosen M.banks = some f → mfind M.chosen (kvs M.banks bl) = some (ptr b 0) → Mem.Ok { M with banks := setBank M.chosen g M.banks } →
        Rep B w0 (upT T d (memO tm tb tt { M with banks := setBank M.chosen g M.banks })) (w.setRow b (bytes 16384 (g f)).toArray)) ∧
      (∀ M' tv' w1, M'.banks = M.banks → M'.Ok → w1.ownsRow 0 tt 3 tv' M'.tones.length (toneCells M'.tones) → w.grownBy w1 tv.ownBlock → (∀ g, tv'.ownBlock = some g → tv.ownBlock = some g ∨ w.heap.size ≤ g) →
        Rep B w0 (upT T d (memO tm tb tt M')) (w1.setRow d (memCells mb M' tv').toArray)) := by
  obtain ⟨fp, ⟨mb, bl, tv, hm, rfl⟩, hdf, hlt, hupd⟩ := h.take hT
  have hnd := hm.nodup
  simp only [List.nodup_cons, List.mem_cons, List.mem_append, Option.mem_toList, not_or] at hnd
  obtain ⟨⟨hdm, hdbl, hdt⟩, ⟨hmbl, hmt⟩, hrest⟩ := hnd
  have hdl := (hlt d hdf).2
  refine ⟨mb, bl, tv, hm, fun j hj => (hlt j hj).2, fun M' hb ht hok => ?_, fun b g f hf hfind hok => ?_, fun M' tv' w1 hb hok hown hg hblk => ?_⟩
  · refine hupd _ _ _ ⟨mb, bl, tv, ⟨setRow_heap w d _ _ tm (0, 0) hm.cells, ?_, ?_, ?_, hm.nodup, hok⟩, rfl⟩ (by simp) (fun j hj => .inl hj) (fun j hj => by rw [setRow_size]; exact (hlt j hj).2) rfl rfl rfl (by simp) (fun j _ hn => setRow_other _ _ _ _ (by
        intro e; subst e; exact hn (by simp)))
    · rw [setRow_other _ _ _ _ (fun e => hdm e.symm), hb]; exact hm.map
    · rw [hb]; exact hm.banks.same (fun j hj => setRow_other _ _ _ _ (fun e => hdbl (e ▸ hj)))
    · rw [ht]
      refine ⟨hm.own.1, ?_⟩
      rcases hm.own.2 with hn | ⟨g, cap, cur, rfl, hb', hg, rest⟩
      · exact .inl hn
      · exact .inr ⟨g, cap, cur, rfl, hb', by rw [setRow_other _ _ _ _ (fun e => hdt (by simp [Value.ownBlock, e]))]; exact hg, rest⟩
  · obtain ⟨b', hb', hf', hh, hset⟩ := hm.banks.some hf
    rw [hf'] at hfind
    simp only [Option.some.injEq, Value.pointer.injEq, Addr.mk.injEq] at hfind
    have hbb : b' = b := hfind.1
    subst hbb
    have hdb : d ≠ b' := fun e => hdbl (e ▸ hb')
    have hmb : mb ≠ b' := fun e => hmbl (e ▸ hb')
    have hnd2 := List.nodup_append.1 hrest
    refine hupd _ _ _ ⟨mb, bl, tv, ⟨?_, ?_, ?_, ?_, hm.nodup, hok⟩, rfl⟩ (by simp) (fun j hj => .inl hj) (fun j hj => by rw [setRow_size]; exact (hlt j hj).2) rfl rfl rfl (by simp) (fun j _ hn => setRow_other _ _ _ _ (by
        intro e; subst e; exact hn (by simp [hb'])))
    · rw [setRow_other _ _ _ _ hdb]; exact hm.cells
    · rw [setRow_other _ _ _ _ hmb]; show _ = some (mapOb _ (kvs (setBank _ _ _) _)); rw [kvs_setBank]; exact hm.map
    · exact hset hnd2.1 g _ (setRow_heap w b' _ _ tb (0, 0) hh) (fun j _ hne => setRow_other _ _ _ _ hne)
    · refine ⟨hm.own.1, ?_⟩
      rcases hm.own.2 with hn | ⟨g', cap, cur, rfl, hb'', hg, rest⟩
      · exact .inl hn
      · exact .inr ⟨g', cap, cur, rfl, hb'', by rw [setRow_other _ _ _ _ (fun e => hnd2.2.2 b' hb' g' (by simp [Value.ownBlock]) e.symm)]; exact hg, rest⟩
  · have hold : ∀ j, j < w.heap.size → tv.ownBlock ≠ some j → w1.heap[j]? = w.heap[j]? := fun j hj hne => hg.block j hj (fun e => hne e.symm)
    have hmlt := (hlt mb (by simp)).2
    have hd1 : w1.heap[d]? = some (.cells (memCells mb M tv).toArray tm (0, 0)) := by rw [hold d hdl hdt]; exact hm.cells
    have hdt' : tv'.ownBlock ≠ some d := by
      intro e
      rcases hblk d e with h' | h'
      · exact hdt h'
      · omega
    have hmt' : tv'.ownBlock ≠ some mb := by
      intro e
      rcases hblk mb e with h' | h'
      · exact hmt h'
      · omega
    have hnd2 := List.nodup_append.1 hrest
    have hbt : ∀ j ∈ bl, tv.ownBlock ≠ some j := fun j hj e => hnd2.2.2 j hj j (by simp [e]) rfl
    have hbt' : ∀ j ∈ bl, tv'.ownBlock ≠ some j := by
      intro j hj e
      rcases hblk j e with h' | h'
      · exact hbt j hj h'
      · have := (hlt j (by simp [hj])).2; omega
    refine hupd _ (d :: mb :: (bl ++ tv'.ownBlock.toList)) _ ⟨mb, bl, tv', ⟨setRow_heap w1 d _ _ tm (0, 0) hd1, ?_, ?_, ⟨hown.1, ?_⟩, ?_, hok⟩, rfl⟩ (by simp) ?_ ?_ hg.os hg.tape hg.output (by simpa using hg.size) ?_
    · rw [setRow_other _ _ _ _ (fun e => hdm e.symm), hold mb hmlt hmt, hb]; exact hm.map
    · rw [hb]; exact hm.banks.same (fun j hj => by rw [setRow_other w1 d j _ (fun (e : j = d) => hdbl (e ▸ hj)), hold j (hlt j (by simp [hj])).2 (hbt j hj)])
    · rcases hown.2 with hn | ⟨g, cap, cur, rfl, hb', hgg, rest⟩
      · exact .inl hn
      · exact .inr ⟨g, cap, cur, rfl, hb', by rw [setRow_other _ _ _ _ (fun e => hdt' (by simp [Value.ownBlock, e]))]; exact hgg, rest⟩
    · simp only [List.nodup_cons, List.mem_cons, List.mem_append, Option.mem_toList, not_or]
      refine ⟨⟨hdm, hdbl, hdt'⟩, ⟨hmbl, hmt'⟩, List.nodup_append.2 ⟨hnd2.1, ?_, fun a ha c hc e => ?_⟩⟩
      · cases tv'.ownBlock <;> simp
      · subst e; simp only [Option.mem_toList] at hc; exact hbt' a ha hc
    · intro j hj
      simp only [List.mem_cons, List.mem_append, Option.mem_toList] at hj ⊢
      rcases hj with rfl | rfl | hj | hj
      · exact .inl (.inl rfl)
      · exact .inl (.inr (.inl rfl))
      · exact .inl (.inr (.inr (.inl hj)))
      · rcases hblk j hj with h' | h'
        · exact .inl (.inr (.inr (.inr h')))
        · exact .inr h'
    · intro j hj
      simp only [List.mem_cons, List.mem_append, Option.mem_toList] at hj
      rw [setRow_size]
      have hsz := hg.size
      rcases hj with rfl | rfl | hj | hj
      · omega
      · omega
      · have := (hlt j (by simp [hj])).2; omega
      · exact (hown.lt j hj).2
    · intro j hj hj2
      simp only [List.mem_cons, List.mem_append, Option.mem_toList, not_or] at hj2
      rw [setRow_other _ _ _ _ hj2.1]
      exact hold j hj hj2.2.2.2
end Go.Sh
namespace Go.Sh
def Ext (T T' : Store) : Prop := ∀ d o, T d = some o → T' d = some o
theorem Ext.refl (T : Store) : Ext T T := fun _ _ h => h
theorem Ext.trans {A B C : Store} (h : Ext A B) (k : Ext B C) : Ext A C := fun d o hd => k d o (h d o hd)
theorem Ext.new {T : Store} {b : Nat} {o : Ob} (hb : T b = none) : Ext T (upT T b o) := fun _ _ hd => look_new hd hb
theorem Ext.up {T T' : Store} (h : Ext T T') (d : Nat) (o : Ob) : Ext (upT T d o) (upT T' d o) := fun j x hj => by
  by_cases e : j = d
  · subst e; simpa using hj
  · rw [upT_ne e] at hj ⊢; exact h j x hj
theorem Rep.ext {B : Nat} {w0 : World} {T T' : Store} {w : World} (h : Rep B w0 T' w) (e : Ext T T') : Rep B w0 T w := h.drop e
theorem Rep.weaken {B : Nat} {w0 : World} {T : Store} {w : World} {d : Nat} {o o' : Ob} (h : Rep B w0 (upT T d o) w) (hw : ∀ fp w, o.rep d fp w → o'.rep d fp w) : Rep B w0 (upT T d o') w := by
  obtain ⟨F, h1, h2⟩ := h.objs
  refine ⟨h.below, h.size, F, fun d1 o1 hd1 => ?_, fun d1 d2 o1 o2 hd1 hd2 hne => ?_⟩
  · by_cases e : d1 = d
    · subst e
      simp only [upT_same, Option.some.injEq] at hd1
      subst hd1
      have := h1 d1 o (by simp)
      exact ⟨hw _ _ this.1, this.2⟩
    · rw [upT_ne e] at hd1
      exact h1 d1 o1 (by rw [upT_ne e]; exact hd1)
  · have f : ∀ x y, upT T d o' x = some y → ∃ z, upT T d o x = some z := fun x y hx => by
      by_cases e : x = d
      · subst e; exact ⟨o, by simp⟩
      · rw [upT_ne e] at hx; exact ⟨y, by rw [upT_ne e]; exact hx⟩
    obtain ⟨z1, hz1⟩ := f d1 o1 hd1
    obtain ⟨z2, hz2⟩ := f d2 o2 hd2
    exact h2 d1 d2 z1 z2 hz1 hz2 hne
/-- a block that begins with these cells -/
def rowO (e : Nat) (xs : List Value) : Ob where
  rep b fp w := fp = [b] ∧ ∃ zs, w.heap[b]? = some (.cells (xs ++ zs).toArray e (0, 0))
  loc := by
    rintro d fp w w' ⟨rfl, zs, h⟩ hs
    exact ⟨rfl, zs, by rw [hs d (by simp)]; exact h⟩
/-- a slice that shows these cells of the store -/
def OwnAt (T : Store) (e n : Nat) (xs : List Value) (v : Value) : Prop :=
  (v = .slice none 0 0 ∧ n = 0 ∧ xs = []) ∨ ∃ b c, v = sl b 0 n c ∧ n ≤ c ∧ T b = some (rowO e xs)
theorem OwnAt.ext {T T' : Store} {e n : Nat} {xs : List Value} {v : Value} (h : OwnAt T e n xs v) (x : Ext T T') : OwnAt T' e n xs v := by
  rcases h with h | ⟨b, c, h1, h2, h3⟩
  · exact .inl h
  · exact .inr ⟨b, c, h1, h2, x _ _ h3⟩
theorem OwnAt.upd {T : Store} {e n : Nat} {xs : List Value} {v : Value} (h : OwnAt T e n xs v) {d : Nat} {o o' : Ob} (hd : T d = some o) (hne : ∀ b, v.ownBlock = some b → b ≠ d) : OwnAt (upT T d o') e n xs v := by
  rcases h with h | ⟨b, c, h1, h2, h3⟩
  · exact .inl h
  · exact .inr ⟨b, c, h1, h2, by rw [upT_ne (hne b (by rw [h1]; rfl))]; exact h3⟩
/-- what a slice shows in a world -/
structure Sees (w : World) (v : Value) (n : Nat) (xs : List Value) : Prop where
  sees : ∃ a c, v = .slice a n c ∧ n ≤ c ∧ ∀ j u, xs[j]? = some u → ∃ g o, a = some ⟨g, o, none⟩ ∧ w.cell? ⟨g, o + j, none⟩ = some u
theorem OwnAt.sees {B : Nat} {w0 : World} {T : Store} {w : World} {e n : Nat} {xs : List Value} {v : Value} (h : OwnAt T e n xs v) (hr : Rep B w0 T w) : Sees w v n xs := by
  rcases h with ⟨rfl, rfl, rfl⟩ | ⟨b, c, rfl, hc, hb⟩
  · exact ⟨none, 0, rfl, Nat.le_refl _, fun j u hj => by simp at hj⟩
  · obtain ⟨fp, ⟨rfl, zs, hh⟩, _⟩ := hr.take hb
    refine ⟨_, c, rfl, hc, fun j u hj => ⟨b, 0, rfl, ?_⟩⟩
    rw [Nat.zero_add, cell_of_row w b j _ _ _ hh]
    rw [List.getElem?_toArray, List.getElem?_append_left (by
      have := List.getElem?_eq_some_iff.1 hj; exact this.1)]
    exact hj
/-- a row of one's own is an object of the store -/
theorem OwnAt.of {B : Nat} {w0 : World} {T : Store} {w w' : World} {e sz n : Nat} {xs : List Value} {v : Value} (h : Rep B w0 T w) (g : Grow w w') (hown : w'.ownsRow 0 e sz v n xs) (hf : ∀ g, v.ownBlock = some g → w.heap.size ≤ g) :
    ∃ T', Ext T T' ∧ OwnAt T' e n xs v ∧ Rep B w0 T' w' := by
  rcases hown with ⟨hl, ⟨rfl, rfl⟩ | ⟨b, cap, cur, rfl, _, hb, hc, _, hs, ht⟩⟩
  · exact ⟨T, Ext.refl _, .inl ⟨rfl, rfl, List.eq_nil_of_length_eq_zero (by simpa using hl)⟩, h.grow g⟩
  · have hf' := hf b rfl
    have hTb := h.fresh hf'
    refine ⟨upT T b (rowO e xs), Ext.new hTb, .inr ⟨b, cap, rfl, hc, upT_same ..⟩, h.new g (fp := [b]) ⟨rfl, cur.toList.drop (n * sz), ?_⟩ (by simp) ?_⟩
    · rw [← ht, List.take_append_drop]; exact hb
    · intro j hj
      simp only [List.mem_singleton] at hj
      subst hj
      refine ⟨hf', ?_⟩
      have := Array.getElem?_eq_some_iff.1 hb
      exact this.1
theorem Ext.raw {B : Nat} {w0 : World} {T : Store} {w : World} {b e : Nat} {xs : List Value} (h : Rep B w0 (upT T b (raw xs.toArray e)) w) : Rep B w0 (upT T b (rowO e xs)) w :=
  h.weaken (fun _ _ hr => ⟨hr.1, [], by rw [List.append_nil]; exact hr.2⟩)
end Go.Sh
namespace Go.Sh
def refCells (bv : Value) (rb sb : Nat) (M : Mem) (tv : Value) : List Value :=
  [bv, sl rb 0 16384 16384, sl sb 0 3072 3072, u8 M.chosen, u8 M.pad, u16 M.pitch, u8 M.vol, u16 M.time, i64 M.cyc, tv]
def bankCells : List (Int × (Nat → Int)) → List Nat → List Value
  | (n, _) :: l, b :: bl => i64 n :: sl b 0 16384 16384 :: bankCells l bl
  | _, _ => []
structure RefAt (tm tb te tt : Nat) (w : World) (d : Nat) (bv : Value) (rb sb : Nat) (bl : List Nat) (tv : Value) (M : Mem) : Prop where
  cells : w.heap[d]? = some (.cells (refCells bv rb sb M tv).toArray tm (0, 0))
  row : w.ownsRow 0 tb 2 bv M.banks.length (bankCells M.banks bl)
  banks : BanksAt te w M.banks bl
  ram : w.heap[rb]? = some (.cells (bytes 16384 M.ram).toArray te (0, 0))
  scr : w.heap[sb]? = some (.cells (bytes 3072 M.scr).toArray te (0, 0))
  own : w.ownsRow 0 tt 3 tv M.tones.length (toneCells M.tones)
  nodup : (d :: rb :: sb :: (bl ++ (bv.ownBlock.toList ++ tv.ownBlock.toList))).Nodup
  ok : M.Ok
theorem ownsRow_same {w w' : World} {e sz n : Nat} {v : Value} {xs : List Value} (h : w.ownsRow 0 e sz v n xs) (hs : ∀ g, v.ownBlock = some g → w'.heap[g]? = w.heap[g]?) : w'.ownsRow 0 e sz v n xs := by
  refine ⟨h.1, ?_⟩
  rcases h.2 with hn | ⟨g, cap, cur, rfl, hb, hg, rest⟩
  · exact .inl hn
  · exact .inr ⟨g, cap, cur, rfl, hb, by rw [hs g rfl]; exact hg, rest⟩
theorem RefAt.same {tm tb te tt : Nat} {w w' : World} {d rb sb : Nat} {bl : List Nat} {bv tv : Value} {M : Mem} (h : RefAt tm tb te tt w d bv rb sb bl tv M) (hs : ∀ j ∈ d :: rb :: sb :: (bl ++ (bv.ownBlock.toList ++ tv.ownBlock.toList)), w'.heap[j]? = w.heap[j]?) : RefAt tm tb te tt w' d bv rb sb bl tv M :=
  ⟨by rw [hs d (by simp)]; exact h.cells, ownsRow_same h.row (fun g hg => hs g (by simp [hg])), h.banks.same (fun j hj => hs j (by simp [hj])), by rw [hs rb (by simp)]; exact h.ram, by rw [hs sb (by simp)]; exact h.scr, ownsRow_same h.own (fun g hg => hs g (by simp [hg])), h.nodup, h.ok⟩
def refO (tm tb te tt : Nat) (M : Mem) : Ob where
  rep d fp w := ∃ bv rb sb bl tv, RefAt tm tb te tt w d bv rb sb bl tv M ∧ fp = d :: rb :: sb :: (bl ++ (bv.ownBlock.toList ++ tv.ownBlock.toList))
  loc := by
    rintro d fp w w' ⟨bv, rb, sb, bl, tv, h, rfl⟩ hs
    exact ⟨bv, rb, sb, bl, tv, h.same hs, rfl⟩
section
variable {tm tb te tt : Nat} {w : World} {d rb sb : Nat} {bl : List Nat} {bv tv : Value} {M : Mem}
structure RefNe (d rb sb : Nat) (bl : List Nat) (bv tv : Value) : Prop where
  drb : d ≠ rb
  dsb : d ≠ sb
  dbl : ∀ j ∈ bl, d ≠ j
  dbv : bv.ownBlock ≠ some d
  dtv : tv.ownBlock ≠ some d
  rs : rb ≠ sb
  rbl : ∀ j ∈ bl, rb ≠ j
  rbv : bv.ownBlock ≠ some rb
  rtv : tv.ownBlock ≠ some rb
  sbl : ∀ j ∈ bl, sb ≠ j
  sbv : bv.ownBlock ≠ some sb
  stv : tv.ownBlock ≠ some sb
  bnd : bl.Nodup
  blv : ∀ j ∈ bl, bv.ownBlock ≠ some j
  blt : ∀ j ∈ bl, tv.ownBlock ≠ some j
  vt : ∀ j, bv.ownBlock = some j → tv.ownBlock ≠ some j
theorem RefAt.ne (h : RefAt tm tb te tt w d bv rb sb bl tv M) : RefNe d rb sb bl bv tv := by
  have hn := h.nodup
  simp only [List.nodup_cons, List.mem_cons, List.mem_append, Option.mem_toList, not_or] at hn
  obtain ⟨⟨h1, h2, h3, h4, h5⟩, ⟨h6, h7, h8, h9⟩, ⟨h10, h11, h12⟩, h13⟩ := hn
  have h14 := List.nodup_append.1 h13
  have h15 := List.nodup_append.1 h14.2.1
  refine ⟨h1, h2, fun j hj e => h3 (e ▸ hj), h4, h5, h6, fun j hj e => h7 (e ▸ hj), h8, h9, fun j hj e => h10 (e ▸ hj), h11, h12, h14.1, fun j hj e => h14.2.2 j hj j (by simp [e]) rfl, fun j hj e => h14.2.2 j hj j (by simp [e]) rfl, fun j hj e => h15.2.2 j (by simp [hj]) j (by simp [e]) rfl⟩
theorem RefAt.setD (h : RefAt tm tb te tt w d bv rb sb bl tv M) {M' : Mem} (h1 : M'.banks = M.banks) (h2 : M'.ram = M.ram) (h3 : M'.scr = M.scr) (h4 : M'.tones = M.tones) (hok : M'.Ok) :
    RefAt tm tb te tt (w.setRow d (refCells bv rb sb M' tv).toArray) d bv rb sb bl tv M' := by
  have n := h.ne
  refine ⟨setRow_heap w d _ _ tm (0, 0) h.cells, ?_, ?_, ?_, ?_, ?_, h.nodup, hok⟩
  · rw [h1]; exact ownsRow_same h.row (fun g hg => setRow_other _ _ _ _ (fun e => n.dbv (e ▸ hg)))
  · rw [h1]; exact h.banks.same (fun j hj => setRow_other _ _ _ _ (fun e => n.dbl j hj e.symm))
  · rw [h2, setRow_other _ _ _ _ n.drb.symm]; exact h.ram
  · rw [h3, setRow_other _ _ _ _ n.dsb.symm]; exact h.scr
  · rw [h4]; exact ownsRow_same h.own (fun g hg => setRow_other _ _ _ _ (fun e => n.dtv (e ▸ hg)))
theorem RefAt.setRam (h : RefAt tm tb te tt w d bv rb sb bl tv M) {f : Nat → Int} (hok : Mem.Ok { M with ram := f }) :
    RefAt tm tb te tt (w.setRow rb (bytes 16384 f).toArray) d bv rb sb bl tv { M with ram := f } := by
  have n := h.ne
  refine ⟨?_, ?_, ?_, setRow_heap w rb _ _ te (0, 0) h.ram, ?_, ?_, h.nodup, hok⟩
  · rw [setRow_other _ _ _ _ n.drb]; exact h.cells
  · exact ownsRow_same h.row (fun g hg => setRow_other _ _ _ _ (fun e => n.rbv (e ▸ hg)))
  · exact h.banks.same (fun j hj => setRow_other _ _ _ _ (fun e => n.rbl j hj e.symm))
  · rw [setRow_other _ _ _ _ n.rs.symm]; exact h.scr
  · exact ownsRow_same h.own (fun g hg => setRow_other _ _ _ _ (fun e => n.rtv (e ▸ hg)))
theorem RefAt.setScr (h : RefAt tm tb te tt w d bv rb sb bl tv M) {f : Nat → Int} (hok : Mem.Ok { M with scr := f }) :
    RefAt tm tb te tt (w.setRow sb (bytes 3072 f).toArray) d bv rb sb bl tv { M with scr := f } := by
  have n := h.ne
  refine ⟨?_, ?_, ?_, ?_, setRow_heap w sb _ _ te (0, 0) h.scr, ?_, h.nodup, hok⟩
  · rw [setRow_other _ _ _ _ n.dsb]; exact h.cells
  · exact ownsRow_same h.row (fun g hg => setRow_other _ _ _ _ (fun e => n.sbv (e ▸ hg)))
  · exact h.banks.same (fun j hj => setRow_other _ _ _ _ (fun e => n.sbl j hj e.symm))
  · rw [setRow_other _ _ _ _ n.rs]; exact h.ram
  · exact ownsRow_same h.own (fun g hg => setRow_other _ _ _ _ (fun e => n.stv (e ▸ hg)))
theorem bankCells_setBank (c : Int) (g : (Nat → Int) → (Nat → Int)) : ∀ (l : List (Int × (Nat → Int))) (bl : List Nat), bankCells (setBank c g l) bl = bankCells l bl
  | [], bl => by cases bl <;> rfl
  | (n, f) :: l, [] => by unfold setBank; split <;> rfl
  | (n, f) :: l, b :: bl => by
    unfold setBank
    split
    · rfl
    · unfold bankCells; rw [bankCells_setBank c g l bl]
theorem setBank_length (c : Int) (g : (Nat → Int) → (Nat → Int)) (l : List (Int × (Nat → Int))) : (setBank c g l).length = l.length := by
  have := congrArg List.length (setBank_keys c g l); simpa using this
theorem RefAt.setBank (h : RefAt tm tb te tt w d bv rb sb bl tv M) {c : Int} {g : (Nat → Int) → (Nat → Int)} {f : Nat → Int} (hf : bankOf c M.banks = some f) (hok : Mem.Ok { M with banks := setBank c g M.banks }) :
    ∃ b, b ∈ bl ∧ mfind c (kvs M.banks bl) = some (ptr b 0) ∧ w.heap[b]? = some (.cells (bytes 16384 f).toArray te (0, 0)) ∧
    RefAt tm tb te tt (w.setRow b (bytes 16384 (g f)).toArray) d bv rb sb bl tv { M with banks := setBank c g M.banks } := by
  have n := h.ne
  obtain ⟨b, hb, hm, hh, hset⟩ := h.banks.some hf
  refine ⟨b, hb, hm, hh, ?_, ?_, ?_, ?_, ?_, ?_, h.nodup, hok⟩
  · rw [setRow_other _ _ _ _ (n.dbl b hb)]; exact h.cells
  · show World.ownsRow _ _ _ _ _ (Sh.setBank _ _ _).length (bankCells (Sh.setBank _ _ _) _)
    rw [bankCells_setBank, setBank_length]; exact ownsRow_same h.row (fun j hj => setRow_other _ _ _ _ (fun e => n.blv b hb (e ▸ hj)))
  · exact hset n.bnd g _ (setRow_heap w b _ _ te (0, 0) hh) (fun j _ hne => setRow_other _ _ _ _ hne)
  · rw [setRow_other _ _ _ _ (n.rbl b hb)]; exact h.ram
  · rw [setRow_other _ _ _ _ (n.sbl b hb)]; exact h.scr
  · exact ownsRow_same h.own (fun j hj => setRow_other _ _ _ _ (fun e => n.blt b hb (e ▸ hj)))
end
theorem BanksAt.drop {tb : Nat} {w : World} : ∀ {l : List (Int × (Nat → Int))} {bl : List Nat} (i : Nat), BanksAt tb w l bl → BanksAt tb w (l.drop i) (bl.drop i)
  | _, _, 0, h => h
  | [], [], _ + 1, _ => trivial
  | (_, _) :: _, _ :: _, i + 1, h => BanksAt.drop i h.2
theorem BanksAt.cells_drop {tb : Nat} {w : World} : ∀ {l : List (Int × (Nat → Int))} {bl : List Nat} (i : Nat), BanksAt tb w l bl → (bankCells l bl).drop (i * 2) = bankCells (l.drop i) (bl.drop i)
  | _, _, 0, _ => by simp
  | [], [], _ + 1, _ => by simp [bankCells]
  | (n, f) :: l, b :: bl, i + 1, h => by
    have := BanksAt.cells_drop (l := l) (bl := bl) i h.2
    rw [List.drop_succ_cons, List.drop_succ_cons, ← this, show (i + 1) * 2 = i * 2 + 1 + 1 by omega]
    rfl
theorem BanksAt.len {tb : Nat} {w : World} : ∀ {l : List (Int × (Nat → Int))} {bl : List Nat}, BanksAt tb w l bl → (bankCells l bl).length = l.length * 2 ∧ bl.length = l.length
  | [], [], _ => ⟨rfl, rfl⟩
  | (n, f) :: l, b :: bl, h => by
    have := BanksAt.len (l := l) (bl := bl) h.2
    refine ⟨?_, by simp [this.2]⟩
    show (bankCells l bl).length + 1 + 1 = (l.length + 1) * 2
    omega
theorem Rep.ref {B : Nat} {w0 : World} {T : Store} {w : World} {tm tb te tt d : Nat} {M : Mem} (h : Rep B w0 T w) (hT : T d = some (refO tm tb te tt M)) :
    ∃ bv rb sb bl tv, RefAt tm tb te tt w d bv rb sb bl tv M ∧ (∀ j ∈ d :: rb :: sb :: (bl ++ (bv.ownBlock.toList ++ tv.ownBlock.toList)), j < w.heap.size) ∧
      (∀ M' j cs w', Grow w w' → j ∈ d :: rb :: sb :: (bl ++ (bv.ownBlock.toList ++ tv.ownBlock.toList)) → RefAt tm tb te tt (w'.setRow j cs) d bv rb sb bl tv M' → Rep B w0 (upT T d (refO tm tb te tt M')) (w'.setRow j cs)) ∧
      (∀ M' tv' w1, M'.banks = M.banks → M'.ram = M.ram → M'.scr = M.scr → M'.Ok → w1.ownsRow 0 tt 3 tv' M'.tones.length (toneCells M'.tones) → w.grownBy w1 tv.ownBlock → (∀ g, tv'.ownBlock = some g → tv.ownBlock = some g ∨ w.heap.size ≤ g) →
        Rep B w0 (upT T d (refO tm tb te tt M')) (w1.setRow d (refCells bv rb sb M' tv').toArray)) := by
  obtain ⟨fp, ⟨bv, rb, sb, bl, tv, hm, rfl⟩, hdf, hlt, hupd⟩ := h.take hT
  have n := hm.ne
  have hdl := (hlt d hdf).2
  refine ⟨bv, rb, sb, bl, tv, hm, fun j hj => (hlt j hj).2, fun M' j cs w' hg hj hr => ?_, fun M' tv' w1 hb hram hscr hok hown hg hblk => ?_⟩
  · exact hupd _ _ _ ⟨bv, rb, sb, bl, tv, hr, rfl⟩ (by simp) (fun j hj => .inl hj) (fun j hj => by rw [setRow_size]; exact Nat.lt_of_lt_of_le (hlt j hj).2 hg.size) hg.os hg.tape hg.output (by simpa using hg.size) (fun i hi hn => by rw [setRow_other w' j i _ (fun (e : i = j) => hn (e ▸ hj))]; exact hg.block i hi)
  · have hold : ∀ j, j < w.heap.size → tv.ownBlock ≠ some j → w1.heap[j]? = w.heap[j]? := fun j hj hne => hg.block j hj (fun e => hne e.symm)
    have old : ∀ j, j ∈ d :: rb :: sb :: (bl ++ (bv.ownBlock.toList ++ tv.ownBlock.toList)) → tv.ownBlock ≠ some j → tv'.ownBlock ≠ some j := fun j hj hne e => by
      rcases hblk j e with h' | h'
      · exact hne h'
      · have := (hlt j hj).2; omega
    have olde : ∀ j, j ∈ d :: rb :: sb :: (bl ++ (bv.ownBlock.toList ++ tv.ownBlock.toList)) → tv.ownBlock ≠ some j → j ≠ d → (w1.setRow d (refCells bv rb sb M' tv').toArray).heap[j]? = w.heap[j]? := fun j hj hne hnd => by
      rw [setRow_other _ _ _ _ hnd, hold j (hlt j hj).2 hne]
    have hd1 : w1.heap[d]? = some (.cells (refCells bv rb sb M tv).toArray tm (0, 0)) := by rw [hold d hdl n.dtv]; exact hm.cells
    have hbvb : ∀ g, bv.ownBlock = some g → g ∈ d :: rb :: sb :: (bl ++ (bv.ownBlock.toList ++ tv.ownBlock.toList)) := fun g hg => by simp [hg]
    have hblb : ∀ g, g ∈ bl → g ∈ d :: rb :: sb :: (bl ++ (bv.ownBlock.toList ++ tv.ownBlock.toList)) := fun g hg => by simp [hg]
    refine hupd _ (d :: rb :: sb :: (bl ++ (bv.ownBlock.toList ++ tv'.ownBlock.toList))) _ ⟨bv, rb, sb, bl, tv', ⟨setRow_heap w1 d _ _ tm (0, 0) hd1, ?_, ?_, ?_, ?_, ?_, ?_, hok⟩, rfl⟩ (by simp) ?_ ?_ hg.os hg.tape hg.output (by simpa using hg.size) ?_
    · rw [hb]; exact ownsRow_same hm.row (fun g hg => olde g (hbvb g hg) (n.vt g hg) (fun e => n.dbv (e ▸ hg)))
    · rw [hb]; exact hm.banks.same (fun j hj => olde j (hblb j hj) (n.blt j hj) (fun e => n.dbl j hj e.symm))
    · rw [hram, olde rb (by simp) n.rtv n.drb.symm]; exact hm.ram
    · rw [hscr, olde sb (by simp) n.stv n.dsb.symm]; exact hm.scr
    · exact ownsRow_same hown (fun g hg => setRow_other _ _ _ _ (fun e => old d (by simp) n.dtv (e ▸ hg)))
    · have h0 := hm.nodup
      simp only [List.nodup_cons, List.mem_cons, List.mem_append, Option.mem_toList, not_or] at h0 ⊢
      obtain ⟨⟨h1, h2, h3, h4, h5⟩, ⟨h6, h7, h8, h9⟩, ⟨h10, h11, h12⟩, h13⟩ := h0
      refine ⟨⟨h1, h2, h3, h4, old d (by simp) h5⟩, ⟨h6, h7, h8, old rb (by simp) h9⟩, ⟨h10, h11, old sb (by simp) h12⟩, ?_⟩
      refine List.nodup_append.2 ⟨n.bnd, List.nodup_append.2 ⟨by cases bv.ownBlock <;> simp, by cases tv'.ownBlock <;> simp, fun a ha b hb' e => ?_⟩, fun a ha b hb' e => ?_⟩
      · subst e
        simp only [Option.mem_toList] at ha hb'
        exact old a (hbvb a ha) (n.vt a ha) hb'
      · subst e
        simp only [List.mem_append, Option.mem_toList] at hb'
        rcases hb' with hb' | hb'
        · exact n.blv a ha hb'
        · exact old a (hblb a ha) (n.blt a ha) hb'
    · intro j hj
      simp only [List.mem_cons, List.mem_append, Option.mem_toList] at hj ⊢
      rcases hj with hj | hj | hj | hj | hj | hj
      · exact .inl (.inl hj)
      · exact .inl (.inr (.inl hj))
      · exact .inl (.inr (.inr (.inl hj)))
      · exact .inl (.inr (.inr (.inr (.inl hj))))
      · exact .inl (.inr (.inr (.inr (.inr (.inl hj)))))
      · rcases hblk j hj with h' | h'
        · exact .inl (.inr (.inr (.inr (.inr (.inr h')))))
        · exact .inr h'
    · intro j hj
      rw [setRow_size]
      have hsz := hg.size
      have hl : ∀ j ∈ d :: rb :: sb :: (bl ++ (bv.ownBlock.toList ++ tv.ownBlock.toList)), j < w1.heap.size := fun j hj => Nat.lt_of_lt_of_le (hlt j hj).2 hsz
      simp only [List.mem_cons, List.mem_append, Option.mem_toList] at hj
      rcases hj with hj | hj | hj | hj | hj | hj
      · exact hl j (by simp [hj])
      · exact hl j (by simp [hj])
      · exact hl j (by simp [hj])
      · exact hl j (by simp [hj])
      · exact hl j (by simp [hj])
      · exact (hown.lt j hj).2
    · intro j hj hj2
      simp only [List.mem_cons, List.mem_append, Option.mem_toList, not_or] at hj2
      rw [setRow_other _ _ _ _ hj2.1]
      exact hold j hj hj2.2.2.2.2.2
end Go.Sh
namespace Go.Sh
theorem upd_hit (d : Nat) (v : Value) (ε : Env) : upd d v ε d = v := by rw [upd_apply, if_pos rfl]
theorem upd_miss {d t : Nat} (h : t ≠ d) (v : Value) (ε : Env) : upd d v ε t = ε t := by rw [upd_apply, if_neg h]
/-- a loop whose counter lies in slot c: n rounds at most; s is whatever else it carries -/
theorem loop_count {σ : Type} {R : (Env → World → Prop) → Env → World → Prop} {ε : Env} {w : World} (E : Nat → σ → Env) (c : Nat) (kd : IntKind) (n : Nat) (Inv : Nat → σ → World → Prop) (s0 : σ)
    (hc : ∀ i s, E i s c = .int kd (i : Int)) (hε : ε = E 0 s0) (h0 : Inv 0 s0 w)
    (step : ∀ i s w K, i ≤ n → Inv i s w → (i < n → ∀ s' w', Inv (i + 1) s' w' → K (E (i + 1) s') w') → R K (E i s) w) : ∃ I μ, LoopE I μ R ε w := by
  refine ⟨fun ε w => ∃ i s, i ≤ n ∧ ε = E i s ∧ Inv i s w, fun ε _ => match ε c with | .int _ x => n - x.toNat | _ => 0, ⟨0, s0, Nat.zero_le _, hε, h0⟩, ?_⟩
  rintro ε w ⟨i, s, hi, rfl, hI⟩
  refine step i s w _ hi hI (fun hlt s' w' hI' => ⟨⟨i + 1, s', hlt, rfl, hI'⟩, ?_⟩)
  rw [hc, hc]
  simp only [Int.toNat_natCast]
  omega
end Go.Sh
namespace Go.Sh
open Go.RowKit (Below)
theorem Grow.cell {w w' : World} (g : Grow w w') {a : Addr} {v : Value} (h : w.cell? a = some v) : w'.cell? a = some v := by
  rw [World.cell?_of_block (w := w) (g.block _ (World.block_lt_of_cell? w a h))]; exact h
theorem Sees.mono {w w' : World} {v : Value} {n : Nat} {xs : List Value} (h : Sees w v n xs) (g : ∀ a u, w.cell? a = some u → w'.cell? a = some u) : Sees w' v n xs := by
  obtain ⟨a, c, rfl, hc, hx⟩ := h.sees
  exact ⟨a, c, rfl, hc, fun j u hj => by obtain ⟨b, o, e, h1⟩ := hx j u hj; exact ⟨b, o, e, g _ _ h1⟩⟩
theorem Sees.grow {w w' : World} {v : Value} {n : Nat} {xs : List Value} (h : Sees w v n xs) (g : Grow w w') : Sees w' v n xs := h.mono fun _ _ => g.cell
theorem Sees.nil (w : World) : Sees w (.slice none 0 0) 0 [] := ⟨none, 0, rfl, Nat.le_refl _, fun j u hj => by simp at hj⟩
theorem Sees.own {w : World} {e sz n : Nat} {v : Value} {xs : List Value} (h : w.ownsRow 0 e sz v n xs) : Sees w v n xs := by
  rcases h.2 with ⟨rfl, rfl⟩ | ⟨g, cap, cur, rfl, _, hg, hc, _, hs, ht⟩
  · have : xs = [] := List.eq_nil_of_length_eq_zero (by simpa using h.1)
    subst this; exact Sees.nil w
  · refine ⟨_, cap, rfl, hc, fun j u hj => ⟨g, 0, rfl, ?_⟩⟩
    rw [Nat.zero_add, cell_of_row w g j cur e (0, 0) hg, ← Array.getElem?_toList]
    rw [← ht, List.getElem?_take] at hj
    split at hj
    · exact hj
    · cases hj
theorem Sees.size {w : World} {v : Value} {n : Nat} {xs : List Value} (h : Sees w v n xs) : ∃ a c, v = .slice a n c ∧ n ≤ c := by
  obtain ⟨a, c, h1, h2, _⟩ := h.sees; exact ⟨a, c, h1, h2⟩
/-- the cell at a place -/
theorem Sees.at {w : World} {v : Value} {n : Nat} {xs : List Value} (h : Sees w v n xs) (hx : xs ≠ []) : ∃ g o c, v = sl g o n c ∧ n ≤ c ∧ ∀ j u, xs[j]? = some u → w.cell? ⟨g, o + j, none⟩ = some u := by
  obtain ⟨a, c, rfl, hc, hj⟩ := h.sees
  obtain ⟨x0, xs0, hxs⟩ := List.exists_cons_of_ne_nil hx
  obtain ⟨g, o, rfl, _⟩ := hj 0 x0 (by rw [hxs]; rfl)
  refine ⟨g, o, c, rfl, hc, fun j u hu => ?_⟩
  obtain ⟨g', o', e, h1⟩ := hj j u hu
  simp only [Option.some.injEq, Addr.mk.injEq, and_true] at e
  obtain ⟨rfl, rfl⟩ := e
  exact h1
/-- a row made since w1 -/
structure New (w1 w : World) (e sz n : Nat) (xs : List Value) (v : Value) : Prop where
  grow : Grow w1 w
  own : w.ownsRow 0 e sz v n xs
  fresh : ∀ g, v.ownBlock = some g → w1.heap.size ≤ g
section
variable {P : Program} {v v2 : Value} {w w1 w0 : World} {Kp : KP} {K : K0} {H : World → Prop} {X : Value → Prop} {B : Nat} {T : Store}
theorem New.nil (w : World) (e sz : Nat) : New w w e sz 0 [] (.slice none 0 0) := ⟨Grow.refl _, ⟨by simp, .inl ⟨rfl, rfl⟩⟩, by rintro g ⟨⟩⟩
theorem New.sees {e sz n : Nat} {xs : List Value} (h : New w1 w e sz n xs v) : Sees w v n xs := .own h.own
theorem New.later {e sz n : Nat} {xs : List Value} {w' : World} (h : New w1 w e sz n xs v) (g : Grow w w') : New w1 w' e sz n xs v :=
  ⟨h.grow.trans g, ⟨h.own.1, h.own.2.imp id fun ⟨b, cap, cur, hv, hb, hg, r⟩ => ⟨b, cap, cur, hv, hb, by rw [g.block b (Array.getElem?_eq_some_iff.1 hg).1]; exact hg, r⟩⟩, h.fresh⟩
theorem New.earlier {e sz n : Nat} {xs : List Value} {w2 : World} (h : New w1 w e sz n xs v) (g : Grow w2 w1) : New w2 w e sz n xs v :=
  ⟨g.trans h.grow, h.own, fun b hb => Nat.le_trans g.size (h.fresh b hb)⟩
/-- a whole new block -/
theorem New.block {e sz n : Nat} {xs : List Value} (hl : xs.length = n * sz) (hn : n ≤ maxLen) : New w (w.alloc (.cells xs.toArray e)) e sz n xs (sl w.heap.size 0 n n) :=
  ⟨Grow.alloc w _, ⟨hl, .inr ⟨w.heap.size, n, xs.toArray, rfl, Nat.zero_le _, heap_alloc_new w _, Nat.le_refl _, hn, by simpa using hl, by rw [← hl]; simp⟩⟩, by rintro g h; simp [Value.ownBlock] at h; omega⟩
theorem S_lit0 {t e : TypeId} {sz : Nat} (hrun : ∀ w, (vbuildS t 0 #[]).run P w = .ok (.value (sl w.heap.size 0 0 0)) (w.alloc (.cells #[] e)))
    (k : ∀ v w', New w w' e sz 0 [] v → K v w') : S P (vbuildS t 0 #[]) w Kp K :=
  S_run (hrun w) (k _ _ (New.block (xs := []) (by simp) (by unfold maxLen; omega)))
/-- append onto a row made since w1 -/
theorem S_appN {t ty e : TypeId} {cs : Array Bool} {i : TypeInfo} {z : Value} (ht : P.underlying t = some (.slice e)) (hi : P.info? e = some i) (hz : i.zero = some z)
    (hzs : z.cells.size = i.size) (hsz : 0 < i.size) {n m : Nat} {xs ys : List Value} (hown : New w1 w e i.size n xs v) (hs : Sees w v2 m ys) (hl : ys.length = m * i.size) (h1 : ys.all (·.oneCell') = true)
    (h63 : n + m ≤ maxLen) (hbytes : (n + m) * i.bytes ≤ 140737488355328)
    (k : ∀ v' w', New w1 w' e i.size (n + m) (xs ++ ys) v' → w.grownBy w' v.ownBlock → K v' w') :
    S P (vblt .append #[t, t] ty cs #[v, v2]) w Kp K := by
  have h1' : ∀ u ∈ ys, u.oneCell' = true := List.all_eq_true.1 h1
  obtain ⟨a, c, rfl, hc, hx⟩ := hs.sees
  have fin : ∀ v' w', w'.ownsRow 0 e i.size v' (n + m) (xs ++ ys) → w.grownBy w' v.ownBlock → (v'.ownBlock = v.ownBlock ∨ v'.ownBlock = some w.heap.size) → K v' w' := fun v' w' h2 h3 h5 => by
    refine k v' w' ⟨⟨h3.os.trans hown.grow.os, h3.tape.trans hown.grow.tape, h3.output.trans hown.grow.output, Nat.le_trans hown.grow.size h3.size, fun b hb => ?_⟩, h2, fun g hg => ?_⟩ h3
    · rw [h3.block b (Nat.lt_of_lt_of_le hb hown.grow.size) (fun e' => by have := hown.fresh b (by rw [← e']); omega)]
      exact hown.grow.block b hb
    · rcases h5 with h5 | h5
      · exact hown.fresh g (h5 ▸ hg)
      · rw [h5, Option.some.injEq] at hg; subst hg; exact hown.grow.size
  cases a with
  | some a =>
    refine S_append (base := 0) ht hi hz hzs hsz hown.own (m := m) (c := c) hl (fun j u hj => ?_) h1' h63 hbytes (Nat.zero_le _) (fun v' w' h2 h3 _ h5 => fin v' w' h2 h3 h5)
    obtain ⟨g, o, e', hcell⟩ := hx j u hj
    simp only [Option.some.injEq] at e'
    subst e'
    rw [Addr.add_mid]; exact hcell
  | none =>
    have hys : ys = [] := by
      cases ys with
      | nil => rfl
      | cons u ys => obtain ⟨g, o, e', _⟩ := hx 0 u rfl; cases e'
    subst hys
    have hm : m = 0 := by
      rcases Nat.eq_zero_or_pos m with h | h
      · exact h
      · have : 0 < m * i.size := Nat.mul_pos h hsz
        rw [← hl] at this; simp at this
    subst hm
    obtain ⟨a', c', hv, hc'⟩ : ∃ a' c', v = .slice a' n c' ∧ n ≤ c' := by
      rcases hown.own.2 with ⟨rfl, rfl⟩ | ⟨g, cap, cur, rfl, _, _, h, _⟩
      · exact ⟨none, 0, rfl, Nat.le_refl _⟩
      · exact ⟨_, cap, rfl, h⟩
    have hk := fin v w (by simpa using hown.own) (grownBy_refl _ _) (.inl rfl)
    rw [hv] at hk ⊢
    cases hcn : c with
    | zero => exact S_append0 ht (by unfold sizeT; rw [hi]; rfl) hc' hk
    | succ c =>
      refine S_run (v := .slice a' n c') (w' := w) ?_ hk
      unfold vblt invoke
      cases a' <;> simp [builtin, Builtin.append_, Builtin.lenOf, Builtin.firstCells, storeCells, Sem.run_bind, Result.andThen, run_underlying ht, run_sizeOf_T (show sizeT P e = some i.size by unfold sizeT; rw [hi]; rfl), hc']
/-- a new row is laid into a struct of one slice -/
theorem Rep.pileNew (h : Rep B w0 T w1) {d e sz t n n' : Nat} {xs xs' : List Value} (hT : T d = some (Sh.pile e sz t xs n)) (hN : New w1 w e sz n' xs' v) :
    ∃ cs, w.heap[d]? = some (.cells cs t (0, 0)) ∧ cs.size = 1 ∧ Rep B w0 (upT T d (Sh.pile e sz t xs' n')) (w.setRow d #[v]) := by
  have hw := h.grow hN.grow
  obtain ⟨fp0, ⟨sv0, hd0, hown0, hne0, rfl⟩, hdf0, hlt0, hupd0⟩ := h.take hT
  have hd : w.heap[d]? = some (.cells #[sv0] t (0, 0)) := by rw [hN.grow.block d (hlt0 d hdf0).2]; exact hd0
  have hne : v.ownBlock ≠ some d := fun e' => by have h1 := hN.fresh d e'; have h2 := (hlt0 d hdf0).2; omega
  refine ⟨_, hd, rfl, hupd0 (Sh.pile e sz t xs' n') (d :: v.ownBlock.toList) _ ⟨v, setRow_heap w d _ _ t (0, 0) hd, ⟨hN.own.1, ?_⟩, hne, rfl⟩ (by simp) ?_ ?_ hN.grow.os hN.grow.tape hN.grow.output (by simpa using hN.grow.size) ?_⟩
  · rcases hN.own.2 with hn | ⟨g, cap, cur, rfl, hb, hg, rest⟩
    · exact .inl hn
    · exact .inr ⟨g, cap, cur, rfl, hb, by rw [setRow_other _ _ _ _ (fun e' => hne (by simp [Value.ownBlock, e']))]; exact hg, rest⟩
  · intro j hj
    simp only [List.mem_cons, Option.mem_toList] at hj
    rcases hj with rfl | hj
    · exact .inl (by simp)
    · exact .inr (hN.fresh j hj)
  · intro j hj
    simp only [List.mem_cons, Option.mem_toList] at hj
    rw [setRow_size]
    rcases hj with rfl | hj
    · exact Nat.lt_of_lt_of_le (hlt0 j hdf0).2 hN.grow.size
    · exact (hN.own.lt j hj).2
  · intro j hj hj2
    simp only [List.mem_cons, Option.mem_toList, not_or] at hj2
    rw [setRow_other _ _ _ _ hj2.1]
    exact hN.grow.block j hj
theorem S_loadC {t : TypeId} {b o : Nat} (ht : plainT P t = true) (hc : w.cell? ⟨b, o, none⟩ = some v) (k : K v w) : S P (vload t (ptr b o)) w Kp K := S_load ht hc k
theorem Fl_loadC {t : TypeId} {b o : Nat} (ht : plainT P t = true) (hc : ∀ w, H w → w.cell? ⟨b, o, none⟩ = some v) (k : X v) : Fl P H (vload t (ptr b o)) X := Fl_run (fun w hw => run_loadAt ht (hc w hw)) k
theorem run_loadRowC {t : TypeId} {b o : Nat} {cs : List Value} (hr : rowT P t = true) (hs : sizeT P t = some cs.length) (hc : ∀ j v, cs[j]? = some v → w.cell? ⟨b, o + j, none⟩ = some v) : (vload t (ptr b o)).run P w = .ok (.value (.agg cs.toArray)) w := by
  refine run_vv ?_
  have hl := run_loadCells_list (P := P) (w := w) ⟨b, o, none⟩ cs (fun j v hv => by rw [Addr.add_mid]; exact hc j v hv)
  unfold Instr.loadAt Instr.sureAddr loadVar
  simp [Sem.run_bind, Result.andThen, run_isAgg_t hr, run_sizeOf_T hs, hl]
theorem Fl_loadRowC {t : TypeId} {b o : Nat} {cs : List Value} (hr : rowT P t = true) (hs : sizeT P t = some cs.length) (hc : ∀ w, H w → ∀ j v, cs[j]? = some v → w.cell? ⟨b, o + j, none⟩ = some v) (k : X (.agg cs.toArray)) :
    Fl P H (vload t (ptr b o)) X := Fl_run (fun w hw => run_loadRowC hr hs (hc w hw)) k
/-- two structs -/
theorem R_neqS {t : TypeId} {cx cy : Bool} {xs ys : Array Value} {b : Bool} (hm : P.eqGuardType P.depth t = false) (h : ∀ w, (Op.equalIn 10000 t (.agg xs) (.agg ys)).run P w = .ok b w) : R P (vbin .neq t cx cy (.agg xs) (.agg ys)) (.bool (!b)) := R_vv fun w => by
  rw [Sem.run_bind, run_eqGuard_agg w .neq t _ _ xs ys hm]
  simp only [Result.andThen]
  rw [run_neq_struct, h]; rfl
theorem R_eqlS {t : TypeId} {cx cy : Bool} {xs ys : Array Value} {b : Bool} (hm : P.eqGuardType P.depth t = false) (h : ∀ w, (Op.equalIn 10000 t (.agg xs) (.agg ys)).run P w = .ok b w) : R P (vbin .eql t cx cy (.agg xs) (.agg ys)) (.bool b) := R_vv fun w => by
  rw [Sem.run_bind, run_eqGuard_agg w .eql t _ _ xs ys hm]
  simp only [Result.andThen]
  rw [run_eql_struct, h]; rfl
end
end Go.Sh
namespace Go.Sh
def partV (P : Program) (t : TypeId) (cs : Array Value) (off : Nat) : Option Value :=
  match rowT P t with
  | true => (sizeT P t).map fun n => .agg (cs.extract off (off + n))
  | false => match plainT P t with
    | true => cs[off]?
    | false => none
theorem run_partV {P : Program} {t : TypeId} {cs : Array Value} {off : Nat} {v : Value} (h : partV P t cs off = some v) (w : World) : (part t cs off).run P w = .ok v w := by
  unfold partV at h
  unfold part
  cases hr : rowT P t with
  | true =>
    rw [hr] at h
    simp only [Option.map_eq_some_iff] at h
    obtain ⟨n, hn, rfl⟩ := h
    simp [Sem.run_bind, run_isAgg_t hr, Result.andThen, run_sizeOf_T hn]
  | false =>
    rw [hr] at h
    simp only at h
    cases hp : plainT P t with
    | false => rw [hp] at h; cases h
    | true =>
      rw [hp] at h
      simp only at h
      simp [Sem.run_bind, run_isAgg_f hp, Result.andThen, h]
def eqVs (P : Program) (r : TypeId → Value → Value → Option Bool) (xs ys : Array Value) : List Field → Option Bool
  | [] => some true
  | f :: fs =>
    match decide (f.name = "_") with
    | true => none
    | false => match partV P f.type xs f.offset, partV P f.type ys f.offset with
      | some a, some b => match r f.type a b, eqVs P r xs ys fs with
        | some p, some q => some (p && q)
        | _, _ => none
      | _, _ => none
def eqV (P : Program) : Nat → TypeId → Value → Value → Option Bool
  | 0, _, _, _ => none
  | n + 1, t, x, y =>
    match P.underlying t, x, y with
    | some .bool, .bool a, .bool b => some (a == b)
    | some (.int _), .int k a, .int k' b => match decide (k = k') with | true => some (a == b) | false => none
    | some .string, .string a, .string b => some (a.toList == b.toList)
    | some (.struct fs), .agg xs, .agg ys => match P.stoodInHeld t with | false => eqVs P (eqV P n) xs ys fs.toList | true => none
    | _, _, _ => none
theorem eqV_sound {P : Program} : ∀ (n : Nat) (d : Nat) (t : TypeId) (x y : Value) (b : Bool), eqV P n t x y = some b → n ≤ d → ∀ w, (Op.equalIn d t x y).run P w = .ok b w := by
  intro n
  induction n with
  | zero => intro d t x y b h; unfold eqV at h; cases h
  | succ n ih =>
    intro d t x y b h hd w
    obtain ⟨d, rfl⟩ : ∃ e, d = e + 1 := ⟨d - 1, by omega⟩
    unfold eqV at h
    split at h
    · rename_i hu
      simp only [Option.some.injEq] at h; subst h
      exact run_equalIn_bool' w d t _ _ hu
    · rename_i hu
      split at h
      · rename_i hk
        have hk := of_decide_eq_true hk
        subst hk
        simp only [Option.some.injEq] at h; subst h
        exact run_equalIn_int w d t _ _ _ _ hu
      · cases h
    · rename_i hu
      simp only [Option.some.injEq] at h; subst h
      exact run_equalIn_string w d t _ _ hu
    · rename_i fs xs ys hu
      split at h
      · rename_i hs
        have hf : P.fieldsOf t = fs := by unfold Program.fieldsOf; rw [hu]
        rw [run_equalIn_agg w d t xs ys (by rw [hf]; exact hu) hs, hf]
        have key : ∀ (l : List Field) (b : Bool), eqVs P (eqV P n) xs ys l = some b → ∀ w, (Op.eqFields d xs ys l).run P w = .ok b w := by
          intro l
          induction l with
          | nil => intro b h w; unfold eqVs at h; simp only [Option.some.injEq] at h; subst h; rfl
          | cons f l ihl =>
            intro b h w
            unfold eqVs at h
            split at h
            · cases h
            · rename_i hname
              have hname := of_decide_eq_false hname
              split at h
              · rename_i a c ha hc
                split at h
                · rename_i p q hp hq
                  simp only [Option.some.injEq] at h
                  subst h
                  unfold Op.eqFields
                  rw [if_pos (by simpa using hname)]
                  simp only [Sem.run_bind, run_partV ha, run_partV hc, Result.andThen, ih d f.type a c p hp (by omega)]
                  cases p
                  · simp
                  · simp [ihl q hq]
                · cases h
              · cases h
        exact key _ _ h w
      · cases h
    · cases h
section
variable {P : Program} {t : TypeId} {cx cy : Bool} {xs ys : Array Value} {b : Bool}
theorem R_neqV (hm : P.eqGuardType P.depth t = false) (h : eqV P 10 t (.agg xs) (.agg ys) = some b) : R P (vbin .neq t cx cy (.agg xs) (.agg ys)) (.bool (!b)) := R_neqS hm (eqV_sound 10 10000 t _ _ b h (by omega))
theorem R_eqlV (hm : P.eqGuardType P.depth t = false) (h : eqV P 10 t (.agg xs) (.agg ys) = some b) : R P (vbin .eql t cx cy (.agg xs) (.agg ys)) (.bool b) := R_eqlS hm (eqV_sound 10 10000 t _ _ b h (by omega))
end
end Go.Sh
namespace Go.Sh
def sgn (x : Int) : Int := if 32768 ≤ x then x - 65536 else x
def flag (b : Bool) : Int := if b then 65535 else 0
def unary (op x : Int) : Option Int :=
  if op = 28 then some ((-x) % 65536) else if op = 29 then some (if x < 32768 then x else (-x) % 65536)
  else if op = 32 then some ((x + 1) % 65536) else if op = 33 then some ((x - 1) % 65536) else if op = 34 then some ((x + x) % 65536)
  else if op = 35 then some ((sgn x / 2) % 65536) else if op = 39 then some (65535 - x) else if op = 48 then some (flag (decide (x = 0)))
  else if op = 49 then some (flag (decide (32768 ≤ x))) else none
def divided (op x y : Int) : Int :=
  if y = 0 then 0 else if op = 24 then (sgn x).tdiv (sgn y) % 65536 else if op = 25 then (sgn x).tmod (sgn y) % 65536 else if op = 26 then x / y else x % y
def binary (op x y : Int) : Option Int :=
  if op = 21 then some ((x + y) % 65536) else if op = 22 then some ((x - y) % 65536) else if op = 23 then some ((x * y) % 65536)
  else if op = 24 ∨ op = 25 ∨ op = 26 ∨ op = 27 then some (divided op x y)
  else if op = 30 then some (if sgn y < sgn x then y else x) else if op = 31 then some (if sgn x < sgn y then y else x)
  else if op = 36 then some ((x.toNat &&& y.toNat : Nat) : Int) else if op = 37 then some ((x.toNat ||| y.toNat : Nat) : Int) else if op = 38 then some ((x.toNat ^^^ y.toNat : Nat) : Int)
  else if op = 40 then some (if 15 < y then 0 else x * 2 ^ y.toNat % 65536) else if op = 41 then some (if 15 < y then 0 else x / 2 ^ y.toNat)
  else if op = 42 then some (flag (decide (x = y))) else if op = 43 then some (flag (!decide (x = y)))
  else if op = 44 then some (flag (decide (sgn x < sgn y))) else if op = 45 then some (flag (decide (sgn y < sgn x)))
  else if op = 46 then some (flag (decide (x < y))) else if op = 47 then some (flag (decide (y < x))) else none
section
variable {P : Program} {w : World} {K : K0} {t s d : TypeId} {cx cy : Bool} {j k : IntKind} {a b x : Int}
theorem wrap16s (h : 0 ≤ x ∧ x < 65536) : IntKind.i16.wrap x = sgn x := by
  simp [IntKind.wrap, IntKind.signed, IntKind.bits, sgn, Int.emod_eq_of_lt h.1 h.2]
theorem R_toI16 (hs : P.underlying s = some (.int .u16)) (hd : P.underlying d = some (.int .i16)) (h : 0 ≤ x ∧ x < 65536) : R P (vconv s d (u16 x)) (.int .i16 (sgn x)) := by
  have := R_conv (x := x) hs hd; rwa [wrap16s h] at this
theorem sgn_in (h : 0 ≤ x ∧ x < 65536) : -32768 ≤ sgn x ∧ sgn x < 32768 := by unfold sgn; split <;> omega
theorem R_not16 (h : 0 ≤ x ∧ x < 65536) : R P (vun .xor (u16 x)) (u16 (65535 - x)) := by
  have e : IntKind.u16.wrap ((BitVec.ofInt 16 65535 ^^^ BitVec.ofInt 16 x).toNat) = 65535 - x := by
    have h1 : BitVec.ofInt 16 65535 = BitVec.allOnes 16 := by decide
    rw [h1, BitVec.allOnes_xor, BitVec.toNat_not, ofInt_toNat h.1 (by omega), wrap16]
    omega
  refine ⟨fun w => ?_⟩
  rw [← e]
  rfl
theorem R_shr1 : R P (vbin .shr t cx cy (i64 a) (.int .u64 1)) (i64 (a / 2)) := by
  have h := R_shr (P := P) (t := t) (cx := cx) (cy := cy) (k := .i64) (a := a) (yk := .u64) (s := 1) (by omega)
  have e : a.fdiv (2 ^ (min (1 : Int).toNat IntKind.i64.bits)) = a / 2 := by
    show a.fdiv 2 = a / 2
    rw [Int.fdiv_eq_ediv_of_nonneg _ (by omega)]
  rw [e] at h; exact h
theorem tdiv_small {a b : Int} (h : -65536 ≤ a ∧ a ≤ 65536) : -65536 ≤ a.tdiv b ∧ a.tdiv b ≤ 65536 := by
  have h1 : (a.tdiv b).natAbs ≤ a.natAbs := by rw [Int.natAbs_tdiv]; exact Nat.div_le_self _ _
  omega
theorem R_quo64 (hb : b ≠ 0) (h : -65536 ≤ a ∧ a ≤ 65536) : R P (vbin .quo t cx cy (i64 a) (i64 b)) (i64 (a.tdiv b)) := by
  have := R_quo (P := P) .i64 t cx cy a b hb
  have h2 := tdiv_small (b := b) h
  rwa [wrap64_in (by omega)] at this
theorem sgn_zero (h : 0 ≤ x ∧ x < 65536) : x = 0 ∨ sgn x ≠ 0 := by unfold sgn; split <;> omega
theorem R_neg16 : R P (vun .neg (u16 x)) (u16 ((0 - x) % 65536)) := by
  rw [← wrap16]
  exact ⟨fun _ => rfl⟩
theorem R_shl16 (h : 0 ≤ b) : R P (vbin .shl t cx cy (u16 a) (u16 b)) (u16 (if 15 < b then 0 else a * 2 ^ b.toNat % 65536)) := by
  have h1 := R_shl (P := P) (t := t) (cx := cx) (cy := cy) (k := .u16) (a := a) (yk := .u16) (s := b) h
  rw [wrap16] at h1
  have e : a * 2 ^ (min b.toNat IntKind.u16.bits) % 65536 = if 15 < b then 0 else a * 2 ^ b.toNat % 65536 := by
    show a * 2 ^ (min b.toNat 16) % 65536 = _
    split
    · rw [Nat.min_eq_right (by omega)]; omega
    · rw [Nat.min_eq_left (by omega)]
  rwa [e] at h1
theorem R_shr16 (h : 0 ≤ b) (ha : 0 ≤ a ∧ a < 65536) : R P (vbin .shr t cx cy (u16 a) (u16 b)) (u16 (if 15 < b then 0 else a / 2 ^ b.toNat)) := by
  have h1 := R_shr (P := P) (t := t) (cx := cx) (cy := cy) (k := .u16) (a := a) (yk := .u16) (s := b) h
  have e : a.fdiv (2 ^ (min b.toNat IntKind.u16.bits)) = if 15 < b then 0 else a / 2 ^ b.toNat := by
    show a.fdiv (2 ^ (min b.toNat 16)) = _
    have hp : ∀ n : Nat, (0 : Int) ≤ 2 ^ n := fun n => Int.pow_nonneg (by omega)
    rw [Int.fdiv_eq_ediv_of_nonneg _ (hp _)]
    split
    · rw [Nat.min_eq_right (by omega)]; omega
    · rw [Nat.min_eq_left (by omega)]
  rwa [e] at h1
theorem R_neg64 (h : -9223372036854775808 < x ∧ x < 9223372036854775808) : R P (vun .neg (i64 x)) (i64 (-x)) := by
  have e : IntKind.i64.wrap (0 - x) = -x := by rw [wrap64_in (by omega)]; omega
  rw [← e]
  exact ⟨fun _ => rfl⟩
/-- the bits up to the i-th, one more -/
theorem mod_bit (z i : Nat) : z % 2 ^ (i + 1) = z % 2 ^ i + (if z.testBit i then 2 ^ i else 0) := by
  have h : z.testBit i = decide (z / 2 ^ i % 2 = 1) := Nat.testBit_eq_decide_div_mod_eq
  have := Nat.mod_lt (z / 2 ^ i) (show 0 < 2 by omega)
  rw [Nat.mod_pow_succ, h]
  by_cases hx : z / 2 ^ i % 2 = 1
  · simp [hx]
  · have : z / 2 ^ i % 2 = 0 := by omega
    simp [this]
theorem bit_of (x i : Nat) : ((x : Int) / 2 ^ i) % 2 = if x.testBit i then 1 else 0 := by
  have h : x.testBit i = decide (x / 2 ^ i % 2 = 1) := Nat.testBit_eq_decide_div_mod_eq
  have e : ((x : Int) / 2 ^ i) % 2 = ((x / 2 ^ i % 2 : Nat) : Int) := by simp
  rw [e, h]
  have := Nat.mod_lt (x / 2 ^ i) (show 0 < 2 by omega)
  by_cases hx : x / 2 ^ i % 2 = 1
  · simp [hx]
  · have : x / 2 ^ i % 2 = 0 := by omega
    simp [this]
end
end Go.Sh
namespace Go.Sh
abbrev RC2 := Int × Int
def retAt (cs : List RC2) (j kind : Int) : RC2 :=
  if j < 0 ∨ (cs.length : Int) ≤ j then (0, 3) else
    match cs[cs.length - 1 - j.toNat]? with
    | some c => if c.1 = kind then (c.2, 0) else (0, 5)
    | none => (0, 3)
end Go.Sh
namespace Go.Sh
theorem R_sliceFromG {P : Program} {t e : TypeId} {a : Option Addr} {n c sz : Nat} {k : IntKind} {l : Int} (hu : P.underlying t = some (.slice e)) (hs : sizeT P e = some sz) (h0 : 0 ≤ l) (h1 : l ≤ n) (h2 : n ≤ c) :
    R P (vslice t (.slice a n c) (some (.int k l)) none none) (.slice (if c = l.toNat then a else a.map (·.add (l.toNat * sz))) (n - l.toNat) (c - l.toNat)) := R_vv fun w => by
  have hle : 0 ≤ l ∧ l ≤ (n : Int) := ⟨h0, h1⟩
  unfold Instr.sliceAt
  simp only [Sem.run_bind, run_underlying hu, Result.andThen]
  unfold Instr.slice Instr.sliceBounds Instr.sliceBound asIntOf
  simp [Sem.run_bind, Result.andThen, run_underlying hu, run_sizeOf_T hs, hle]
theorem R_sliceG {P : Program} {t e : TypeId} {a : Option Addr} {n c sz : Nat} {k k' : IntKind} {l u : Int} (hu : P.underlying t = some (.slice e)) (hs : sizeT P e = some sz) (h0 : 0 ≤ l) (h1 : l ≤ u) (h2 : u ≤ c) :
    R P (vslice t (.slice a n c) (some (.int k l)) (some (.int k' u)) none) (.slice (if c = l.toNat then a else a.map (·.add (l.toNat * sz))) (u.toNat - l.toNat) (c - l.toNat)) := R_vv fun w => by
  have hle : 0 ≤ l ∧ l ≤ u := ⟨h0, h1⟩
  have hle2 : 0 ≤ u ∧ u ≤ (c : Int) := ⟨by omega, h2⟩
  have hc : l ≤ (c : Int) := by omega
  have e1 : ((u.toNat : Nat) : Int) = u := Int.toNat_of_nonneg (by omega)
  unfold Instr.sliceAt
  simp only [Sem.run_bind, run_underlying hu, Result.andThen]
  unfold Instr.slice Instr.sliceBounds Instr.sliceBound asIntOf
  simp [Sem.run_bind, Result.andThen, run_underlying hu, run_sizeOf_T hs, hle, hle2, e1]
theorem Sees.drop {w : World} {a : Option Addr} {n c sz l : Nat} {xs : List Value} (h : Sees w (.slice a n c) n xs) (hl : xs.length = n * sz) (h1 : l ≤ n) :
    Sees w (.slice (if c = l then a else a.map (·.add (l * sz))) (n - l) (c - l)) (n - l) (xs.drop (l * sz)) := by
  obtain ⟨a', c', e, hc, hx⟩ := h.sees
  simp only [Value.slice.injEq, true_and] at e
  obtain ⟨rfl, rfl⟩ := e
  refine ⟨_, _, rfl, by omega, fun j u hj => ?_⟩
  rw [List.getElem?_drop] at hj
  have hlt := (List.getElem?_eq_some_iff.1 hj).1
  obtain ⟨g, o, rfl, h2⟩ := hx _ _ hj
  by_cases e : c = l
  · have : n = l := by omega
    subst this; rw [hl] at hlt; omega
  · rw [if_neg e]
    exact ⟨g, o + l * sz, by simp [Addr.add_mid], by rw [Nat.add_assoc]; exact h2⟩
theorem Sees.take {w : World} {a : Option Addr} {n c sz l : Nat} {xs : List Value} (h : Sees w (.slice a n c) n xs) (h1 : l ≤ n) : Sees w (.slice a l c) l (xs.take (l * sz)) := by
  obtain ⟨a', c', e, hc, hx⟩ := h.sees
  simp only [Value.slice.injEq, true_and] at e
  obtain ⟨rfl, rfl⟩ := e
  refine ⟨_, _, rfl, by omega, fun j u hj => ?_⟩
  rw [List.getElem?_take] at hj
  split at hj
  · exact hx _ _ hj
  · cases hj
/-- a row made since becomes an object -/
theorem New.lay {B : Nat} {w0 w1 w : World} {T : Store} {e sz n : Nat} {xs : List Value} {v : Value} (h : Rep B w0 T w1) (hN : New w1 w e sz n xs v) : ∃ T', Ext T T' ∧ OwnAt T' e n xs v ∧ Rep B w0 T' w :=
  OwnAt.of h hN.grow hN.own hN.fresh
theorem OwnAt.at {T : Store} {e n : Nat} {xs : List Value} {v : Value} (h : OwnAt T e n xs v) (hx : xs ≠ []) : ∃ b c, v = sl b 0 n c ∧ n ≤ c ∧ T b = some (rowO e xs) := by
  rcases h with ⟨_, _, rfl⟩ | h
  · exact absurd rfl hx
  · exact h
theorem rowO_ne {T : Store} {b d e : Nat} {xs : List Value} {o : Ob} (hb : T b = some (rowO e xs)) (hd : T d = some o) (h : o ≠ rowO e xs) : b ≠ d := fun e' => by rw [e', hd, Option.some.injEq] at hb; exact h hb
theorem Rep.row {B : Nat} {w0 : World} {T : Store} {w : World} (h : Rep B w0 T w) {b e : Nat} {xs : List Value} (hb : T b = some (rowO e xs)) : ∀ j u, xs[j]? = some u → w.cell? ⟨b, j, none⟩ = some u := by
  intro j u hj
  obtain ⟨fp, ⟨_, zs, hg⟩, _⟩ := h.take hb
  rw [cell_of_row w b j _ _ _ hg, List.getElem?_toArray, List.getElem?_append_left (List.getElem?_eq_some_iff.1 hj).1]
  exact hj
/-- what lies in a store of one's own is all that has changed -/
theorem Rep.toGrow {w w' : World} {T : Store} (h : Rep w.heap.size w T w') : Grow w w' := ⟨h.below.os, h.below.tape, h.below.output, h.size, h.below.block⟩
theorem Rep.frame {B : Nat} {w0 w w' : World} {T T' : Store} {d : Nat} {o : Ob} (h : Rep B w0 T w) (h' : Rep w.heap.size w T' w') (hd : T' d = some o) : Rep B w0 (upT T d o) w' := by
  obtain ⟨fp, h1, h2, h3, _⟩ := h'.take hd
  exact h.new h'.toGrow h1 h2 h3
theorem Grow.setRow {w w1 : World} (g : Grow w w1) {b : Nat} (hb : w.heap.size ≤ b) (cs : Array Value) : Grow w (w1.setRow b cs) :=
  ⟨g.os, g.tape, g.output, by rw [setRow_size]; exact g.size, fun k hk => by rw [setRow_other _ _ _ _ (by omega)]; exact g.block k hk⟩
/-- all objects of a store of one's own come to those that there are -/
theorem Rep.join {B : Nat} {w0 w w' : World} {T T' : Store} (h : Rep B w0 T w) (h' : Rep w.heap.size w T' w') : Rep B w0 (fun j => match T' j with | some o => some o | none => T j) w' := by
  have g := h'.toGrow
  have hw := h.grow g
  obtain ⟨F, h1, h2⟩ := h.objs
  obtain ⟨F', h1', h2'⟩ := h'.objs
  refine ⟨hw.below, hw.size, fun j => match T' j with | some _ => F' j | none => F j, fun d o hd => ?_, fun d d' o o' hd hd' hne j hj => ?_⟩
  · cases hT : T' d with
    | some o1 =>
      simp only [hT, Option.some.injEq] at hd ⊢
      subst hd
      obtain ⟨a, b, c⟩ := h1' d o1 hT
      exact ⟨a, b, fun j hj => ⟨Nat.le_trans h.size (c j hj).1, (c j hj).2⟩⟩
    | none =>
      simp only [hT] at hd ⊢
      obtain ⟨a, b, c⟩ := h1 d o hd
      exact ⟨o.loc d (F d) w w' a (fun j hj => g.block j (c j hj).2), b, fun j hj => ⟨(c j hj).1, Nat.lt_of_lt_of_le (c j hj).2 g.size⟩⟩
  · cases hT : T' d with
    | some o1 =>
      cases hT' : T' d' with
      | some o2 =>
        simp only [hT, hT'] at hj ⊢
        exact h2' d d' o1 o2 hT hT' hne j hj
      | none =>
        simp only [hT, hT'] at hd' hj ⊢
        intro hj'
        have a1 := ((h1' d o1 hT).2.2 j hj).1
        have a2 := ((h1 d' o' hd').2.2 j hj').2
        omega
    | none =>
      cases hT' : T' d' with
      | some o2 =>
        simp only [hT, hT'] at hd hj ⊢
        intro hj'
        have a1 := ((h1' d' o2 hT').2.2 j hj').1
        have a2 := ((h1 d o hd).2.2 j hj).2
        omega
      | none =>
        simp only [hT, hT'] at hd hd' hj ⊢
        exact h2 d d' o o' hd hd' hne j hj
theorem Rep.frame2 {B : Nat} {w0 w w' : World} {T T' : Store} {d e : Nat} {o p : Ob} (h : Rep B w0 T w) (h' : Rep w.heap.size w T' w') (hne : d ≠ e) (hd : T' d = some o) (he : T' e = some p) : Rep B w0 (upT (upT T d o) e p) w' := by
  refine (h.join h').drop (fun j x hj => ?_)
  by_cases e1 : j = e
  · subst e1; rw [upT_same] at hj; simp only [he]; exact hj
  · rw [upT_ne e1] at hj
    by_cases e2 : j = d
    · subst e2; rw [upT_same] at hj; simp only [hd]; exact hj
    · rw [upT_ne e2] at hj
      cases hT : T' j with
      | some y =>
        have := (h'.lt hT).1
        have := (h.lt hj).2
        omega
      | none => exact hj
end Go.Sh
namespace Go.Sh
def primIn : List Int := [0, 0, 0, 0, 0, 1, 2, 0, 0, 0, 0, 0, 1, 1, 2, 2, 3, 2, 2, 2, 2, 2, 2, 2, 2, 2, 2, 2, 1, 1, 2, 2, 1, 1, 1, 1, 2, 2, 2, 1, 2, 2, 2, 2, 2, 2, 2, 2, 1, 1, 1, 2, 1, 2, 2, 1, 0, 0, 0, 0, 3, 0, 2, 1]
def primOut : List Int := [0, 0, 1, 1, 0, 0, 0, 0, 0, 0, 0, 0, 2, 0, 2, 3, 3, 1, 3, 4, 0, 1, 1, 1, 1, 1, 1, 1, 1, 1, 1, 1, 1, 1, 1, 1, 1, 1, 1, 1, 1, 1, 1, 1, 1, 1, 1, 1, 1, 1, 1, 0, 1, 0, 0, 0, 1, 1, 1, 1, 0, 1, 0, 0]
def primCost : List Int := [0, 2, 2, 2, 2, 2, 3, 3, 2, 1, 1, 1, 1, 1, 1, 1, 1, 1, 1, 2, 1, 1, 1, 3, 4, 4, 4, 4, 1, 1, 1, 1, 1, 1, 1, 1, 1, 1, 1, 1, 1, 1, 1, 1, 1, 1, 1, 1, 1, 1, 2, 2, 2, 2, 3, 1, 1, 1, 1, 1, 3, 1, 2, 1]
def primName : List (List UInt8) := [[], [], [], [], [], [], [], [], [], [110, 111, 112], [121, 105, 101, 108, 100], [104, 97, 108, 116], [100, 117, 112], [100, 114, 111, 112], [115, 119, 97, 112], [111, 118, 101, 114], [114, 111, 116], [110, 105, 112], [116, 117, 99, 107], [50, 100, 117, 112], [50, 100, 114, 111, 112], [43], [45], [42], [47], [109, 111, 100], [117, 47], [117, 109, 111, 100], [110, 101, 103, 97, 116, 101], [97, 98, 115], [109, 105, 110], [109, 97, 120], [49, 43], [49, 45], [50, 42], [50, 47], [97, 110, 100], [111, 114], [120, 111, 114], [105, 110, 118, 101, 114, 116], [108, 115, 104, 105, 102, 116], [114, 115, 104, 105, 102, 116], [61], [60, 62], [60], [62], [117, 60], [117, 62], [48, 61], [48, 60], [64], [33], [99, 64], [99, 33], [43, 33], [62, 114], [114, 62], [114, 64], [105], [106], [112, 108, 111, 116], [112, 97, 100], [116, 111, 110, 101], [98, 97, 110, 107]]
def inOf (op : Int) : Int := primIn.getD op.toNat 0
def outOf (op : Int) : Int := primOut.getD op.toNat 0
def plainOp (op : Int) : Prop := op = 9 ∨ op = 6 ∨ (12 ≤ op ∧ op < 64)
instance (op : Int) : Decidable (plainOp op) := by unfold plainOp; infer_instance
structure PS where
  ds : List Int
  rs : List RC2
  mem : Mem
def shufOf (op : Int) (x : List Int) : Option (List Int) :=
  match x with
  | [a] => if op = 12 then some [a, a] else if op = 13 then some [] else none
  | [a, b] => if op = 14 then some [b, a] else if op = 15 then some [a, b, a] else if op = 17 then some [b] else if op = 18 then some [b, a, b] else if op = 19 then some [a, b, a, b] else if op = 20 then some [] else none
  | [a, b, c] => if op = 16 then some [b, c, a] else none
  | _ => none
def seen (op : Int) (rs : List RC2) : RC2 :=
  if op = 56 ∨ op = 57 then retAt rs 0 4 else if op = 58 then retAt rs 0 3 else if op = 59 then retAt rs 2 3 else (0, 0)
def addsOf (op : Int) : Int := if op = 55 then 1 else if op = 6 then 2 else 0
/-- the fault -/
def primFault (op : Int) (s : PS) : Int :=
  if ¬ plainOp op then 6
  else if (s.ds.length : Int) < inOf op then 1
  else if outOf op > 256 - (s.ds.length - inOf op) then 2
  else if (seen op s.rs).2 ≠ 0 then (seen op s.rs).2
  else if (s.rs.length : Int) + addsOf op > 128 then 4
  else 0
/-- what is put on the data stack for the cells x -/
def puts (op : Int) (x : List Int) (s : PS) : List Int :=
  match shufOf op x with
  | some l => l
  | none => match x with
    | [] => if op = 56 ∨ op = 57 ∨ op = 58 ∨ op = 59 then [(seen op s.rs).1] else if op = 61 then [s.mem.pad] else []
    | [a] => match unary op a with
      | some z => [z]
      | none => if op = 50 then [s.mem.cell a] else if op = 52 then [s.mem.load a] else []
    | [a, b] => match binary op a b with
      | some z => [z]
      | none => []
    | _ => []
def retsOf (op : Int) (x : List Int) (rs : List RC2) : List RC2 :=
  match x with
  | [a, b] => if op = 6 then rs ++ [(2, a), (3, b)] else rs
  | [a] => if op = 55 then rs ++ [(4, a)] else rs
  | [] => if op = 56 then rs.dropLast else rs
  | _ => rs
def memOf (op : Int) (x : List Int) (M : Mem) : Mem :=
  match x with
  | [a, b] => if op = 51 then M.setCell b a else if op = 53 then M.store b (a % 256) else if op = 54 then M.setCell b ((M.cell b + a) % 65536) else if op = 62 then M.play a (b % 256) else M
  | [a] => if op = 63 then M.choose a else M
  | [a, b, c] => if op = 60 then M.plot a b c else M
  | _ => M
def primAct (op : Int) (s : PS) : PS :=
  let k := s.ds.length - (inOf op).toNat
  let x := s.ds.drop k
  ⟨s.ds.take k ++ puts op x s, retsOf op x s.rs, memOf op x s.mem⟩
end Go.Sh
namespace Go.Sh
open Go.RowKit (Below)
abbrev Bk := Int × List Int
def bankVals : List Bk → List Value → List Value
  | (n, _) :: l, dv :: dl => i64 n :: dv :: bankVals l dl
  | _, _ => []
def DataAt (w : World) : List Bk → List Value → Prop
  | [], [] => True
  | (_, d) :: l, dv :: dl => Sees w dv d.length (d.map u8) ∧ dv.oneCell' = true ∧ DataAt w l dl
  | _, _ => False
def BanksIn (w : World) (v : Value) (bs : List Bk) : Prop := ∃ dvs, Sees w v bs.length (bankVals bs dvs) ∧ DataAt w bs dvs
theorem DataAt.grow {w w' : World} (g : Grow w w') : ∀ {bs : List Bk} {dvs : List Value}, DataAt w bs dvs → DataAt w' bs dvs
  | [], [], _ => trivial
  | (_, _) :: _, _ :: _, h => ⟨h.1.grow g, h.2.1, DataAt.grow g h.2.2⟩
theorem BanksIn.grow {w w' : World} {v : Value} {bs : List Bk} (h : BanksIn w v bs) (g : Grow w w') : BanksIn w' v bs := by
  obtain ⟨dvs, h1, h2⟩ := h
  exact ⟨dvs, h1.grow g, h2.grow g⟩
theorem DataAt.get {w : World} : ∀ {bs : List Bk} {dvs : List Value} {i : Nat} {b : Bk}, DataAt w bs dvs → bs[i]? = some b →
    ∃ dv, (bankVals bs dvs)[i * 2]? = some (i64 b.1) ∧ (bankVals bs dvs)[i * 2 + 1]? = some dv ∧ Sees w dv b.2.length (b.2.map u8) ∧ dv.oneCell' = true
  | [], [], i, b, _, h => by simp at h
  | (n, d) :: l, dv :: dl, 0, b, h, hb => by
    simp at hb; subst hb
    exact ⟨dv, rfl, rfl, h.1, h.2.1⟩
  | (n, d) :: l, dv :: dl, i + 1, b, h, hb => by
    rw [show (i + 1) * 2 = i * 2 + 1 + 1 by omega]
    exact DataAt.get h.2.2 (by simpa using hb)
def mayB : Int → List Bk → Bool
  | _, [] => true
  | last, (n, d) :: l => if n ≤ last ∨ n > 15 ∨ d.length > 16384 then false else mayB n l
/-- a bank's bytes -/
def fillB (d : List Int) : Nat → Int := fun j => d.getD j 0
def banksOf (bs : List Bk) : List (Int × (Nat → Int)) := bs.map fun b => (b.1, fillB b.2)
theorem kvs_append {tb : Nat} {w : World} (n : Int) (f : Nat → Int) (b : Nat) : ∀ {l : List (Int × (Nat → Int))} {bl : List Nat}, BanksAt tb w l bl → kvs (l ++ [(n, f)]) (bl ++ [b]) = kvs l bl ++ [(n, ptr b 0)]
  | [], [], _ => rfl
  | (m, g) :: l, c :: bl, h => by
    show (m, ptr c 0) :: kvs (l ++ [(n, f)]) (bl ++ [b]) = _
    rw [kvs_append n f b h.2]; rfl
theorem BanksAt.append {tb : Nat} {w : World} {n : Int} {f : Nat → Int} {b : Nat} (hb : w.heap[b]? = Option.some (.cells (Sh.bytes 16384 f).toArray tb (0, 0))) : ∀ {l : List (Int × (Nat → Int))} {bl : List Nat}, BanksAt tb w l bl → BanksAt tb w (l ++ [(n, f)]) (bl ++ [b])
  | [], [], _ => ⟨hb, trivial⟩
  | (_, _) :: _, _ :: _, h => ⟨h.1, BanksAt.append hb h.2⟩
theorem kvs_none {n : Int} : ∀ {l : List (Int × (Nat → Int))} {bl : List Nat}, (∀ p ∈ l, p.1 ≠ n) → mfind n (kvs l bl) = none
  | [], bl, _ => by cases bl <;> rfl
  | (_, _) :: _, [], _ => rfl
  | (m, g) :: l, c :: bl, h => by
    unfold kvs mfind
    rw [if_neg (fun e => h (m, g) (by simp) e.symm)]
    exact kvs_none (fun p hp => h p (by simp [hp]))
theorem MemAt.add {tm tb tt : Nat} {w w5 : World} {d mb b : Nat} {bl : List Nat} {tv : Value} {M : Mem} {n : Int} {f : Nat → Int} (hm : MemAt tm tb tt w d mb bl tv M) (g : Grow w w5)
    (hlt : ∀ j ∈ d :: mb :: (bl ++ tv.ownBlock.toList), j < w.heap.size) (hb : w5.heap[b]? = some (.cells (Sh.bytes 16384 f).toArray tb (0, 0))) (hbs : w.heap.size ≤ b) (hok : Mem.Ok { M with banks := M.banks ++ [(n, f)] }) :
    MemAt tm tb tt { w5 with heap := w5.heap.setIfInBounds mb (mapOb .u8 (kvs M.banks bl ++ [(n, ptr b 0)])) } d mb (bl ++ [b]) tv { M with banks := M.banks ++ [(n, f)] } := by
  have h5 := hm.same (w' := w5) (fun j hj => g.block j (hlt j hj))
  have hn := hm.nodup
  simp only [List.nodup_cons, List.mem_cons, List.mem_append, not_or, Option.mem_toList] at hn
  obtain ⟨⟨hdm, hdb, hdt⟩, ⟨hmb, hmt⟩, hrest⟩ := hn
  have hmlt : mb < w5.heap.size := Nat.lt_of_lt_of_le (hlt mb (by simp)) g.size
  have other : ∀ j, j ≠ mb → ({ w5 with heap := w5.heap.setIfInBounds mb (mapOb .u8 (kvs M.banks bl ++ [(n, ptr b 0)])) } : World).heap[j]? = w5.heap[j]? := fun j hj => by
    show (w5.heap.setIfInBounds mb _)[j]? = _
    rw [Array.getElem?_setIfInBounds_ne (fun e => hj e.symm)]
  have hbm : b ≠ mb := fun e => by have := hlt mb (by simp); omega
  refine ⟨?_, ?_, ?_, ?_, ?_, hok⟩
  · rw [other d hdm]; exact h5.cells
  · show (w5.heap.setIfInBounds mb _)[mb]? = _
    rw [Array.getElem?_setIfInBounds_self_of_lt hmlt, kvs_append n f b h5.banks]
  · refine BanksAt.append (by rw [other b hbm]; exact hb) (h5.banks.same (fun j hj => other j (fun e => hmb (e ▸ hj))))
  · refine ⟨h5.own.1, ?_⟩
    rcases h5.own.2 with hn | ⟨g', cap, cur, rfl, hb', hg, rest⟩
    · exact .inl hn
    · exact .inr ⟨g', cap, cur, rfl, hb', by rw [other g' (fun e => hmt (by rw [← e]; rfl))]; exact hg, rest⟩
  · simp only [List.nodup_cons, List.mem_cons, List.mem_append, not_or, Option.mem_toList, List.not_mem_nil, or_false]
    refine ⟨⟨hdm, ⟨hdb, fun e => by have := hlt d (by simp); omega⟩, hdt⟩, ⟨⟨hmb, fun e => hbm e.symm⟩, hmt⟩, ?_⟩
    have h1 := List.nodup_append.1 hrest
    refine List.nodup_append.2 ⟨List.nodup_append.2 ⟨h1.1, by simp, fun a ha c hc e => ?_⟩, h1.2.1, fun a ha c hc e => ?_⟩
    · simp only [List.mem_singleton] at hc
      subst hc; subst e
      have := hlt a (by simp [ha]); omega
    · subst e
      simp only [List.mem_append, List.mem_singleton] at ha
      rcases ha with ha | rfl
      · exact h1.2.2 a ha a hc rfl
      · have := hlt a (by simp only [List.mem_cons, List.mem_append]; exact .inr (.inr (.inr hc))); omega
theorem Mem.Ok.add {M : Mem} (h : M.Ok) {n : Int} {d : List Int} (hn : 0 ≤ n ∧ n < 16) (hlast : ∀ p ∈ M.banks, p.1 < n) (hd : ∀ x ∈ d, isB x) : Mem.Ok { M with banks := M.banks ++ [(n, fillB d)] } := by
  refine { h with banks := fun p hp => ?_, sorted := ?_ }
  · rcases List.mem_append.1 hp with hp | hp
    · exact h.banks p hp
    · simp only [List.mem_singleton] at hp
      subst hp
      refine ⟨hn, fun i => ?_⟩
      show isB (d.getD i 0)
      rw [List.getD_eq_getElem?_getD]
      cases e : d[i]? with
      | none => show isB 0; unfold isB; omega
      | some x => exact hd x (List.mem_of_getElem? e)
  · exact List.pairwise_append.2 ⟨h.sorted, by simp, fun a ha b hb => by simp only [List.mem_singleton] at hb; subst hb; exact hlast a ha⟩
theorem bytes_fill (d : List Int) (h : d.length ≤ 16384) : d.map u8 ++ (Sh.bytes 16384 (fun _ => 0)).drop d.length = Sh.bytes 16384 (fillB d) := by
  apply List.ext_getElem?
  intro j
  rw [List.getElem?_append]
  by_cases hj : j < d.length
  · rw [if_pos (by simpa using hj), List.getElem?_map, bytes_get _ (by omega)]
    unfold fillB
    rw [List.getD_eq_getElem?_getD, List.getElem?_eq_getElem hj]; rfl
  · rw [if_neg (by simpa using hj), List.getElem?_drop, List.length_map]
    by_cases h2 : j < 16384
    · rw [show d.length + (j - d.length) = j by omega, bytes_get _ h2, bytes_get _ h2]
      unfold fillB
      rw [List.getD_eq_getElem?_getD, List.getElem?_eq_none (by omega)]; rfl
    · rw [List.getElem?_eq_none (by simp; omega), List.getElem?_eq_none (by simp; omega)]
theorem S_copyNil {P : Program} {w : World} {Kp : KP} {K : K0} {dT sT ty e : TypeId} {cb : Array Bool} {sz : Nat} (hu : P.underlying dT = some (.slice e)) (hs : sizeT P e = some sz) {g o dLen dCap sCap : Nat} {a : Option Addr}
    (k : K (i64 0) w) : S P (vblt .copy #[dT, sT] ty cb #[sl g o dLen dCap, .slice a 0 sCap]) w Kp K := by
  refine S_run (v := i64 0) ?_ k
  unfold vblt invoke
  cases a <;> simp [builtin, Builtin.copy_, Builtin.lenOf, Builtin.firstCells, storeCells, Sem.run_bind, Result.andThen, run_underlying hu, run_sizeOf_T hs, goInt, loadCells, loadCellsFrom]
end Go.Sh
namespace Go.Sh
theorem bankCells_append {te : Nat} {w : World} (n : Int) (f : Nat → Int) (b : Nat) : ∀ {l : List (Int × (Nat → Int))} {bl : List Nat}, BanksAt te w l bl → bankCells (l ++ [(n, f)]) (bl ++ [b]) = bankCells l bl ++ [i64 n, sl b 0 16384 16384]
  | [], [], _ => rfl
  | (m, g) :: l, c :: bl, h => by
    show i64 m :: sl c 0 16384 16384 :: bankCells (l ++ [(n, f)]) (bl ++ [b]) = _
    rw [bankCells_append n f b h.2]; rfl
theorem Rep.refAdd {B : Nat} {w0 w : World} {T : Store} {tm tb te tt d : Nat} {M : Mem} (h : Rep B w0 T w) (hT : T d = some (refO tm tb te tt M)) :
    ∃ bv rb sb bl tv, RefAt tm tb te tt w d bv rb sb bl tv M ∧ (∀ j ∈ d :: rb :: sb :: (bl ++ (bv.ownBlock.toList ++ tv.ownBlock.toList)), j < w.heap.size) ∧
      ∀ (n : Int) (f : Nat → Int) (b : Nat) (w5 w6 : World) (bv' : Value), Grow w w5 → w5.heap[b]? = some (.cells (Sh.bytes 16384 f).toArray te (0, 0)) → w.heap.size ≤ b →
        w6.ownsRow 0 tb 2 bv' (M.banks.length + 1) (bankCells M.banks bl ++ [i64 n, sl b 0 16384 16384]) → w5.grownBy w6 bv.ownBlock → (bv'.ownBlock = bv.ownBlock ∨ bv'.ownBlock = some w5.heap.size) →
        Mem.Ok { M with banks := M.banks ++ [(n, f)] } → Rep B w0 (upT T d (refO tm tb te tt { M with banks := M.banks ++ [(n, f)] })) (w6.setRow d (refCells bv' rb sb M tv).toArray) := by
  obtain ⟨fp, ⟨bv, rb, sb, bl, tv, hm, rfl⟩, hdf, hlt, hupd⟩ := h.take hT
  have ne := hm.ne
  refine ⟨bv, rb, sb, bl, tv, hm, fun j hj => (hlt j hj).2, fun n f b w5 w6 bv' g5 hb5 hbs hown hg hblk hok => ?_⟩
  have hlt' : ∀ j ∈ d :: rb :: sb :: (bl ++ (bv.ownBlock.toList ++ tv.ownBlock.toList)), j < w.heap.size := fun j hj => (hlt j hj).2
  have hb5l : b < w5.heap.size := (Array.getElem?_eq_some_iff.1 hb5).1
  have mD : d ∈ d :: rb :: sb :: (bl ++ (bv.ownBlock.toList ++ tv.ownBlock.toList)) := by simp
  have mR : rb ∈ d :: rb :: sb :: (bl ++ (bv.ownBlock.toList ++ tv.ownBlock.toList)) := by simp
  have mS : sb ∈ d :: rb :: sb :: (bl ++ (bv.ownBlock.toList ++ tv.ownBlock.toList)) := by simp
  have mB : ∀ j, j ∈ bl → j ∈ d :: rb :: sb :: (bl ++ (bv.ownBlock.toList ++ tv.ownBlock.toList)) := fun j hj => by simp [hj]
  have mV : ∀ j, bv.ownBlock = some j → j ∈ d :: rb :: sb :: (bl ++ (bv.ownBlock.toList ++ tv.ownBlock.toList)) := fun j hj => by simp [hj]
  have mT : ∀ j, tv.ownBlock = some j → j ∈ d :: rb :: sb :: (bl ++ (bv.ownBlock.toList ++ tv.ownBlock.toList)) := fun j hj => by simp [hj]
  -- old blocks other than the row of banks are as they were
  have old6 : ∀ j, j < w.heap.size → bv.ownBlock ≠ some j → w6.heap[j]? = w.heap[j]? := fun j hj hne => by
    rw [hg.block j (Nat.lt_of_lt_of_le hj g5.size) (fun e => hne e.symm), g5.block j hj]
  -- the new row of banks lies on no other block
  have newv : ∀ j, j < w.heap.size → bv.ownBlock ≠ some j → bv'.ownBlock ≠ some j := fun j hj hne e => by
    rcases hblk with h' | h'
    · exact hne (h' ▸ e)
    · rw [h', Option.some.injEq] at e; have := g5.size; omega
  have vb : bv'.ownBlock ≠ some b := fun e => by
    rcases hblk with h' | h'
    · rw [h'] at e; have := hlt' b (mV b e); omega
    · rw [h', Option.some.injEq] at e; omega
  have hb6 : w6.heap[b]? = some (.cells (Sh.bytes 16384 f).toArray te (0, 0)) := by
    rw [hg.block b hb5l (fun e => by have := hlt' b (mV b e.symm); omega)]; exact hb5
  have hd6 : w6.heap[d]? = some (.cells (refCells bv rb sb M tv).toArray tm (0, 0)) := by rw [old6 d (hlt' d mD) ne.dbv]; exact hm.cells
  have bne : ∀ j, j < w.heap.size → j ≠ b := fun j hj e => by omega
  have olde : ∀ j, j < w.heap.size → bv.ownBlock ≠ some j → j ≠ d → (w6.setRow d (refCells bv' rb sb M tv).toArray).heap[j]? = w.heap[j]? := fun j hj hne hnd => by
    rw [setRow_other _ _ _ _ hnd]; exact old6 j hj hne
  refine hupd (refO tm tb te tt { M with banks := M.banks ++ [(n, f)] }) (d :: rb :: sb :: ((bl ++ [b]) ++ (bv'.ownBlock.toList ++ tv.ownBlock.toList))) _ ⟨bv', rb, sb, bl ++ [b], tv, ⟨setRow_heap w6 d _ _ tm (0, 0) hd6, ?_, ?_, ?_, ?_, ?_, ?_, hok⟩, rfl⟩ (by simp) ?_ ?_ (hg.os.trans g5.os) (hg.tape.trans g5.tape) (hg.output.trans g5.output) ?_ ?_
  · show World.ownsRow _ _ _ _ _ (M.banks ++ [(n, f)]).length (bankCells (M.banks ++ [(n, f)]) (bl ++ [b]))
    rw [bankCells_append n f b hm.banks, List.length_append]
    exact ownsRow_same hown (fun g' hg' => setRow_other _ _ _ _ (fun e => newv d (hlt' d mD) ne.dbv (e ▸ hg')))
  · exact BanksAt.append (by rw [setRow_other _ _ _ _ (fun e => bne d (hlt' d mD) e.symm)]; exact hb6) (hm.banks.same (fun j hj => olde j (hlt' j (mB j hj)) (ne.blv j hj) (fun e => ne.dbl j hj e.symm)))
  · rw [olde rb (hlt' rb mR) ne.rbv ne.drb.symm]; exact hm.ram
  · rw [olde sb (hlt' sb mS) ne.sbv ne.dsb.symm]; exact hm.scr
  · exact ownsRow_same hm.own (fun g' hg' => olde g' (hlt' g' (mT g' hg')) (fun e => ne.vt g' e hg') (fun e => ne.dtv (e ▸ hg')))
  · simp only [List.nodup_cons, List.mem_cons, List.mem_append, List.not_mem_nil, or_false, not_or, Option.mem_toList]
    refine ⟨⟨ne.drb, ne.dsb, ⟨fun e => ne.dbl d e rfl, bne d (hlt' d mD)⟩, newv d (hlt' d mD) ne.dbv, ne.dtv⟩, ⟨ne.rs, ⟨fun e => ne.rbl rb e rfl, bne rb (hlt' rb mR)⟩, newv rb (hlt' rb mR) ne.rbv, ne.rtv⟩,
      ⟨⟨fun e => ne.sbl sb e rfl, bne sb (hlt' sb mS)⟩, newv sb (hlt' sb mS) ne.sbv, ne.stv⟩, ?_⟩
    refine List.nodup_append.2 ⟨List.nodup_append.2 ⟨ne.bnd, by simp, fun a ha c hc e => ?_⟩, List.nodup_append.2 ⟨by cases bv'.ownBlock <;> simp, by cases tv.ownBlock <;> simp, fun a ha c hc e => ?_⟩, fun a ha c hc e => ?_⟩
    · simp only [List.mem_singleton] at hc
      subst hc; subst e
      exact bne a (hlt' a (mB a ha)) rfl
    · subst e
      simp only [Option.mem_toList] at ha hc
      have hal := hlt' a (mT a hc)
      exact newv a hal (fun e => ne.vt a e hc) ha
    · subst e
      simp only [List.mem_append, List.mem_singleton, Option.mem_toList] at ha hc
      rcases ha with ha | rfl
      · rcases hc with hc | hc
        · exact newv a (hlt' a (mB a ha)) (ne.blv a ha) hc
        · exact ne.blt a ha hc
      · rcases hc with hc | hc
        · exact vb hc
        · exact bne a (hlt' a (mT a hc)) rfl
  · intro j hj
    simp only [List.mem_cons, List.mem_append, List.not_mem_nil, or_false, Option.mem_toList] at hj
    rcases hj with rfl | rfl | rfl | (hj | rfl) | hj | hj
    · exact .inl mD
    · exact .inl mR
    · exact .inl mS
    · exact .inl (mB j hj)
    · exact .inr hbs
    · rcases hblk with h' | h'
      · exact .inl (mV j (h' ▸ hj))
      · rw [h', Option.some.injEq] at hj; subst hj; exact .inr g5.size
    · exact .inl (mT j hj)
  · intro j hj
    rw [setRow_size]
    have s6 := hg.size
    have lt6 : ∀ j, j < w.heap.size → j < w6.heap.size := fun j hj => Nat.lt_of_lt_of_le (Nat.lt_of_lt_of_le hj g5.size) s6
    simp only [List.mem_cons, List.mem_append, List.not_mem_nil, or_false, Option.mem_toList] at hj
    rcases hj with rfl | rfl | rfl | (hj | rfl) | hj | hj
    · exact lt6 _ (hlt' _ mD)
    · exact lt6 _ (hlt' _ mR)
    · exact lt6 _ (hlt' _ mS)
    · exact lt6 _ (hlt' _ (mB j hj))
    · omega
    · exact (hown.lt j hj).2
    · exact lt6 _ (hlt' _ (mT j hj))
  · rw [setRow_size]; exact Nat.le_trans g5.size hg.size
  · intro j hj hn
    have hjd : j ≠ d := fun e => hn (e ▸ mD)
    exact olde j hj (fun e => hn (mV j e)) hjd
end Go.Sh
namespace Go.Sh
def ownO (e sz n c : Nat) (xs : List Value) : Ob where
  rep b fp w := fp = [b] ∧ w.ownsRow 0 e sz (sl b 0 n c) n xs
  loc := by
    rintro d fp w w' ⟨rfl, h⟩ hs
    exact ⟨rfl, ownsRow_same h (fun g hg => hs g (by simp [Value.ownBlock] at hg; simp [hg]))⟩
theorem own_cases {w : World} {e sz n : Nat} {v : Value} {xs : List Value} (h : w.ownsRow 0 e sz v n xs) (hv : v ≠ .slice none 0 0) : ∃ b c, v = sl b 0 n c := by
  rcases h.2 with ⟨h, _⟩ | ⟨g, cap, cur, rfl, _⟩
  · exact absurd h hv
  · exact ⟨g, cap, rfl⟩
theorem New.layO {B : Nat} {w0 w1 w : World} {T : Store} {e sz n b c : Nat} {xs : List Value} (h : Rep B w0 T w1) (hN : New w1 w e sz n xs (sl b 0 n c)) : T b = none ∧ Rep B w0 (upT T b (ownO e sz n c xs)) w := by
  have hb := hN.fresh b rfl
  refine ⟨h.fresh hb, h.new hN.grow (fp := [b]) ⟨rfl, hN.own⟩ (by simp) (fun j hj => ?_)⟩
  simp only [List.mem_singleton] at hj
  subst hj
  exact ⟨hb, (hN.own.lt j rfl).2⟩
theorem Rep.own {B : Nat} {w0 w : World} {T : Store} {e sz n b c : Nat} {xs : List Value} (h : Rep B w0 T w) (hb : T b = some (ownO e sz n c xs)) : w.ownsRow 0 e sz (sl b 0 n c) n xs := by
  obtain ⟨fp, h1, _⟩ := h.take hb
  exact h1.2
/-- a cell of a row of one's own is written -/
theorem S_storeO {P : Program} {B : Nat} {w0 w : World} {T : Store} {Kp : KP} {K : K0} {t e sz n b c j : Nat} {x : Value} {xs : List Value} (hs : sizeT P t = some 1) (h : Rep B w0 T w) (hb : T b = some (ownO e sz n c xs)) (hj : j < xs.length) (h1 : x.oneCell' = true)
    (k : ∀ w', Rep B w0 (upT T b (ownO e sz n c (xs.set j x))) w' → K undef w') : S P (vstore t (ptr b j) x) w Kp K := by
  obtain ⟨fp, ⟨rfl, hown⟩, hdf, hlt, hupd⟩ := h.take hb
  rcases hown.2 with ⟨e', _⟩ | ⟨g, cap, cur, e', hB, hg, h2, h3, h4, h5⟩
  · cases e'
  simp only [Value.slice.injEq, Option.some.injEq, Addr.mk.injEq, and_true, true_and] at e'
  obtain ⟨rfl, rfl⟩ := e'
  have hlen := hown.1
  have hmul : n * sz ≤ c * sz := Nat.mul_le_mul_right _ h2
  refine S_storeB hs hg (by omega) h1 (k _ ?_)
  refine hupd (ownO e sz n c (xs.set j x)) [b] _ ⟨rfl, by simpa using hlen, .inr ⟨b, c, cur.setIfInBounds j x, rfl, Nat.zero_le _, setRow_heap w b _ _ e (0, 0) hg, h2, h3, by simpa using h4, ?_⟩⟩ (by simp) (fun j hj => .inl hj) (fun j hj => by rw [setRow_size]; exact (hlt j hj).2) rfl rfl rfl (by simp) (fun i hi hn => setRow_other _ _ _ _ (by simpa using hn))
  rw [Array.toList_setIfInBounds, List.take_set, h5]
theorem Rep.merge {B : Nat} {w0 w : World} {T : Store} {b x : Nat} {o1 o2 o : Ob} (h : Rep B w0 T w) (h1 : T b = some o1) (h2 : T x = some o2) (hne : b ≠ x) (hm : ∀ f1 f2, o1.rep b f1 w → o2.rep x f2 w → b ∈ f1 → (∀ j ∈ f1, j ∉ f2) → ∃ f, o.rep x f w ∧ x ∈ f ∧ ∀ j ∈ f, j ∈ f1 ∨ j ∈ f2) :
    Rep B w0 (fun j => if j = b then none else if j = x then some o else T j) w := by
  obtain ⟨F, a1, a2⟩ := h.objs
  obtain ⟨r1, m1, l1⟩ := a1 b o1 h1
  obtain ⟨r2, m2, l2⟩ := a1 x o2 h2
  obtain ⟨f, r, m, hf⟩ := hm (F b) (F x) r1 r2 m1 (a2 b x o1 o2 h1 h2 hne)
  refine ⟨h.below, h.size, fun j => if j = x then f else F j, fun d o' hd => ?_, fun d d' o' o'' hd hd' hn j hj => ?_⟩
  · by_cases e1 : d = b
    · simp only [if_pos e1] at hd; cases hd
    · simp only [if_neg e1] at hd
      by_cases e2 : d = x
      · simp only [if_pos e2, Option.some.injEq] at hd ⊢
        subst hd; subst e2
        exact ⟨r, m, fun j hj => (hf j hj).elim (l1 j) (l2 j)⟩
      · simp only [if_neg e2] at hd ⊢
        exact a1 d o' hd
  · have key : ∀ {p q : Nat} {o3 o4 : Ob}, p ≠ b → q ≠ b → p ≠ q → (if p = x then some o else T p) = some o3 → (if q = x then some o else T q) = some o4 → ∀ j ∈ (if p = x then f else F p), j ∉ (if q = x then f else F q) := by
      intro p q o3 o4 hp hq hpq hd hd' j hj
      by_cases e2 : p = x
      · have e3 : q ≠ x := fun e => hpq (e2.trans e.symm)
        simp only [if_pos e2, if_neg e3] at hd' hj ⊢
        intro hj'
        rcases hf j hj with h' | h'
        · exact a2 b q o1 o4 h1 hd' (fun e => hq e.symm) j h' hj'
        · exact a2 x q o2 o4 h2 hd' (fun e => e3 e.symm) j h' hj'
      · simp only [if_neg e2] at hd hj
        by_cases e3 : q = x
        · simp only [if_pos e3]
          intro hj'
          rcases hf j hj' with h' | h'
          · exact a2 p b o3 o1 hd h1 hp j hj h'
          · exact a2 p x o3 o2 hd h2 e2 j hj h'
        · simp only [if_neg e3] at hd' ⊢
          exact a2 p q o3 o4 hd hd' hpq j hj
    by_cases e1 : d = b
    · simp only [if_pos e1] at hd; cases hd
    by_cases e2 : d' = b
    · simp only [if_pos e2] at hd'; cases hd'
    simp only [if_neg e1] at hd
    simp only [if_neg e2] at hd'
    exact key e1 e2 hn hd hd' j hj
/-- a struct of one slice takes over the row -/
theorem Rep.toPile {B : Nat} {w0 w : World} {T : Store} {b x e sz n c t : Nat} {xs : List Value} (h : Rep B w0 T w) (h1 : T b = some (ownO e sz n c xs)) (h2 : T x = some (Sh.raw #[sl b 0 n c] t)) (hne : b ≠ x) :
    Rep B w0 (fun j => if j = b then none else if j = x then some (Sh.pile e sz t xs n) else T j) w :=
  h.merge h1 h2 hne (fun f1 f2 r1 r2 _ _ => ⟨[x, b], ⟨sl b 0 n c, r2.2, r1.2, by simp [Value.ownBlock, hne], by simp [Value.ownBlock]⟩, by simp, fun j hj => by
    rw [r1.1, r2.1]; simp at hj ⊢; rcases hj with h | h <;> simp [h]⟩)
section
variable {P : Program} {v v2 : Value} {w w1 w0 : World} {Kp : KP} {K : K0}
theorem S_lit0' {t e : TypeId} {sz : Nat} (hrun : ∀ w, (vbuildS t 0 #[]).run P w = .ok (.value (sl w.heap.size 0 0 0)) (w.alloc (.cells #[] e)))
    (k : ∀ v w', New w w' e sz 0 [] v → v ≠ .slice none 0 0 → K v w') : S P (vbuildS t 0 #[]) w Kp K :=
  S_run (hrun w) (k _ _ (New.block (xs := []) (by simp) (by unfold maxLen; omega)) (by simp))
/-- append onto a row made since w1; the row is not nil -/
theorem S_appN' {t ty e : TypeId} {cs : Array Bool} {i : TypeInfo} {z : Value} (ht : P.underlying t = some (.slice e)) (hi : P.info? e = some i) (hz : i.zero = some z)
    (hzs : z.cells.size = i.size) (hsz : 0 < i.size) {n m : Nat} {xs ys : List Value} (hown : New w1 w e i.size n xs v) (hnil : v ≠ .slice none 0 0) (hs : Sees w v2 m ys) (hl : ys.length = m * i.size) (h1 : ys.all (·.oneCell') = true)
    (h63 : n + m ≤ maxLen) (hbytes : (n + m) * i.bytes ≤ 140737488355328)
    (k : ∀ v' w', New w1 w' e i.size (n + m) (xs ++ ys) v' → w.grownBy w' v.ownBlock → v' ≠ .slice none 0 0 → K v' w') :
    S P (vblt .append #[t, t] ty cs #[v, v2]) w Kp K := by
  have h1' : ∀ u ∈ ys, u.oneCell' = true := List.all_eq_true.1 h1
  obtain ⟨a, c, rfl, hc, hx⟩ := hs.sees
  cases a with
  | none =>
    have hys : ys = [] := by
      cases ys with
      | nil => rfl
      | cons u ys => obtain ⟨g, o, e', _⟩ := hx 0 u rfl; cases e'
    have hm : m = 0 := by
      rcases Nat.eq_zero_or_pos m with h | h
      · exact h
      · have : 0 < m * i.size := Nat.mul_pos h hsz
        rw [← hl, hys] at this; simp at this
    subst hys
    subst hm
    obtain ⟨g, c', rfl⟩ := own_cases hown.own hnil
    have hc' : n ≤ c' := by
      rcases hown.own.2 with ⟨h, _⟩ | ⟨g, cap, cur, h, _, _, h2, _⟩
      · cases h
      · simp at h; omega
    have hk := k _ w (by simpa using hown) (grownBy_refl _ _) hnil
    cases hcn : c with
    | zero => exact S_append0 ht (by unfold sizeT; rw [hi]; rfl) hc' hk
    | succ c =>
      refine S_run (v := sl g 0 n c') (w' := w) ?_ hk
      unfold vblt invoke
      simp [builtin, Builtin.append_, Builtin.lenOf, Builtin.firstCells, storeCells, Sem.run_bind, Result.andThen, run_underlying ht, run_sizeOf_T (show sizeT P e = some i.size by unfold sizeT; rw [hi]; rfl), hc']
  | some a =>
    refine S_append (base := 0) ht hi hz hzs hsz hown.own (m := m) (c := c) hl (fun j u hj => ?_) h1' h63 hbytes (Nat.zero_le _) (fun v' w' h2 h3 h4 h5 => ?_)
    · obtain ⟨g, o, e', hcell⟩ := hx j u hj
      simp only [Option.some.injEq] at e'
      subst e'
      rw [Addr.add_mid]; exact hcell
    · refine k v' w' ⟨⟨h3.os.trans hown.grow.os, h3.tape.trans hown.grow.tape, h3.output.trans hown.grow.output, Nat.le_trans hown.grow.size h3.size, fun b hb => ?_⟩, h2, fun g hg => ?_⟩ h3 (fun e' => hnil (h4.1 e').1)
      · rw [h3.block b (Nat.lt_of_lt_of_le hb hown.grow.size) (fun e' => by have := hown.fresh b (by rw [← e']); omega)]
        exact hown.grow.block b hb
      · rcases h5 with h5 | h5
        · exact hown.fresh g (h5 ▸ hg)
        · rw [h5, Option.some.injEq] at hg; subst hg; exact hown.grow.size
end
end Go.Sh
