/- A part of the proof of a law: texts of this claim, joined by a program of the prover (RF, Fr, We6, We7, We8, We9). Conditions: those that each law names. -/
import Derived.Test.YtebmnfmiphbgdaaGreatDoorEachE
import Derived.RangeFuncIn
import Derived.RangeFuncLeaves
import Derived.RangeFuncRecord
import Derived.RangeFuncCalls
import Derived.LoopIn
set_option linter.unusedVariables false
set_option linter.unusedSimpArgs false
set_option linter.unusedSectionVars false
set_option linter.unnecessarySimpa false
namespace Go.Sh
/-- the fence that asks nothing, of a round's frame or of a plain one -/
def Fr (ro : Option Nat) : Fence := { Fence.wide with round := ro }
theorem callsFr {ro : Option Nat} {n : Nat} {P : Program} {f : FuncId} {args : Array Value} {w : World} {R : Ending → World → Prop} (h : Calls P f args w R) : CallsIn (Fr ro) n P f args w R :=
  (callsIn_wide (n := n)).2 h
theorem callsFr_iff {ro : Option Nat} {n : Nat} {P : Program} {f : FuncId} {args : Array Value} {w : World} {R : Ending → World → Prop} (h : CallsIn (Fr ro) n P f args w R) : Calls P f args w R :=
  (callsIn_wide (n := n)).1 h
/-- what a round does -/
abbrev Yd := Nat → FuncId → Array Value → Code → Code → World → KP → K0 → Prop
def uponY (P : Program) (Y : Yd) (K : K0) (Kp : KP) : Result Next → Prop
  | .ok (.round l f tmps asn b) w => Y l f tmps asn b w Kp K
  | r => upon P K Kp r
structure SY (P : Program) (Y : Yd) (s : Sem Next) (w : World) (Kp : KP) (K : K0) : Prop where
  out : uponY P Y K Kp (s.run P w)
def isDyn (o : Oper) : Bool := match o.op with | .call { callee := .value (.tmp _), .. } => true | _ => false
def noDefer (o : Oper) : Bool := match o.op with | .defer _ => false | _ => true
def opY (P : Program) (Y : Yd) (ops : Array Oper) (o : Oper) (D : Ds) (ε : Env) (w : World) (Kp : KP) (K : KE) : Prop :=
  match rds D ops o with
  | true => match o.guard with
    | none => match o.op with
      | .move x | .assign x => K (putD o.dst D) (put o.dst (ev ε x) ε) w
      | _ => match isDyn o with
        | true => SY P Y (execOp (ev ε) o) w Kp fun v w' => K (putD o.dst D) (put o.dst v ε) w'
        | false => S P (execOp (ev ε) o) w Kp fun v w' => K (putD o.dst D) (put o.dst v ε) w'
    | some (j, want) => GS (gv ops ε j) want P (execOp (ev ε) o) w Kp fun v w' => K (putD o.dst D) (put o.dst v ε) w'
  | false => False
def regY (P : Program) (Y : Yd) (ops : Array Oper) (Kp : KP) (K : KE) : List Oper → KE
  | [], D, ε, w => K D ε w
  | o :: rest, D, ε, w => opY P Y ops o D ε w Kp fun D' ε' w' => regY P Y ops Kp K rest D' ε' w'
def wpY (P : Program) (Y : Yd) (G : Ds) : Code → QE → KE
  | .skip, Q, D, ε, w | .label _, Q, D, ε, w => Q .normal D ε w
  | .region _ ops false, Q, D, ε, w => regY P Y ops (fun ch w => Q (.panic ch) [] E0 w) (fun D ε w => Q .normal D ε w) ops.toList D ε w
  | .seq x y, Q, D, ε, w => match straight x with
    | true => wpY P Y G x (thn (fun D ε w => wpY P Y G y Q D ε w) Q) D ε w
    | false => J (fun ε w => wpY P Y G y Q G ε w) (fun k => wpY P Y G x (thn (jn G k) Q) D ε w)
  | .cond c x y, Q, D, ε, w => match rd D c with
    | true => C (ev ε c) (wpY P Y G x Q D ε w) (wpY P Y G y Q D ε w)
    | false => False
  | .block id c, Q, D, ε, w => wpY P Y G c (blk id Q) D ε w
  | .loop c, Q, D, ε, w => match sub G D with
    | true => ∃ I μ, LoopE I μ (fun K ε w => wpY P Y G c (thn (jn G K) Q) G ε w) (keep ε G) w
    | false => False
  | .exit id, Q, D, ε, w => Q (.exit id) D ε w
  | .ret, Q, D, ε, w => Q .ret D ε w
  | _, _, _, _, _ => False
def codeOkY (n : Nat) : Code → Bool
  | .region _ ops _ => ops.toList.all (fun o => dstOk n o && noDefer o) && Region.noSelect ops
  | .seq x y | .cond _ x y => codeOkY n x && codeOkY n y
  | .block _ c | .loop c | .scope c => codeOkY n c
  | _ => true
section
variable {P : Program} {Y : Yd} {ro : Option Nat} {m : Nat}
theorem upon_realY {o : Oper} {a : Act} {n : Nat} {D : Ds} {ε : Env} {Q : QE} {ds : List Deferred} (hn : NoLook Q) (ha : Agr n D a ε) (hds : a.defers = ds)
    {K : K0} {Kr : Act → World → Prop} (hK : ∀ v w, K v w → Kr (a.put o.dst v) w) {r : Result Next}
    (h : upon P K (fun ch w => Q (.panic ch) [] E0 w) r) : o.uponIn (Fr ro) m P a Kr (Real n Q ds) r := by
  cases r with
  | ok x w =>
    cases x <;> simp only [upon] at h <;> simp only [Oper.uponIn]
    case value v => exact hK _ _ h
    case skip => exact hK _ _ h
    case enter f args =>
      refine ⟨(fun h => by cases h), CallsIn.mono (callsFr h) fun e w' he => ?_⟩
      cases e with
      | returned v => exact hK _ _ he
      | panicked ch => exact ⟨hds, D, ε, ha, hn _ _ _ _ _ _ he⟩
      | outgrown => exact he.elim
    all_goals exact h.elim
  | halt x w =>
    cases x <;> simp only [upon] at h <;> simp only [Oper.uponIn]
    case panic v => exact ⟨hds, D, ε, ha, hn _ _ _ _ _ _ h⟩
    all_goals exact h.elim
theorem uponY_real (hY : ∀ k l f tmps asn b w Kp K, Y l f tmps asn b w Kp K → RoundIn (Fr ro) k P l f tmps asn b w (EndsS Kp K)) {o : Oper} {a : Act} {n : Nat} {D : Ds} {ε : Env} {Q : QE} {ds : List Deferred} (hn : NoLook Q) (ha : Agr n D a ε) (hds : a.defers = ds)
    {K : K0} {Kr : Act → World → Prop} (hK : ∀ v w, K v w → Kr (a.put o.dst v) w) {r : Result Next}
    (h : uponY P Y K (fun ch w => Q (.panic ch) [] E0 w) r) : o.uponIn (Fr ro) m P a Kr (Real n Q ds) r := by
  unfold uponY at h
  split at h
  · rename_i l f tmps asn b w
    refine ⟨(fun h => by cases h), RoundIn.mono (hY _ _ _ _ _ _ _ _ _ h) fun e w' he => ?_⟩
    cases e with
    | returned v => exact hK _ _ he
    | panicked ch => exact ⟨hds, D, ε, ha, hn _ _ _ _ _ _ he⟩
    | outgrown => exact he.elim
  · exact upon_realY hn ha hds hK h
theorem opY_sound (hY : ∀ k l f tmps asn b w Kp K, Y l f tmps asn b w Kp K → RoundIn (Fr ro) k P l f tmps asn b w (EndsS Kp K)) {ops : Array Oper} {i : Nat} {o : Oper} {n : Nat} {D : Ds} {a : Act} {ε : Env} {w : World} {Q : QE} {ds : List Deferred} (hn : NoLook Q)
    (hi : ops[i]? = some o) (hops : ∀ o ∈ ops.toList, dstOk n o = true ∧ noDefer o = true) (hsel : Region.noSelect ops = true) (ha : Agr n D a ε) (hds : a.defers = ds)
    {K : KE} {Kr : Act → World → Prop} (hK : ∀ a' D' ε' w', Agr n D' a' ε' → a'.defers = ds → K D' ε' w' → Kr a' w')
    (h : opY P Y ops o D ε w (fun ch w => Q (.panic ch) [] E0 w) K) :
    if Region.wanted o (yielded ops a.tmps) then o.wpIn (Fr ro) m P a w Kr (Real n Q ds) else (∀ f, o.about P w a.eval = some f → (Fr ro).fn f) ∧ Kr (a.put o.dst undef) w := by
  have hmem : o ∈ ops.toList := by simpa using Array.mem_of_getElem? hi
  have hd := dstOk_spec (hops o hmem).1
  have hput : ∀ v w', K (putD o.dst D) (put o.dst v ε) w' → Kr (a.put o.dst v) w' := fun v w' hk => hK _ _ _ _ (ha.put _ hd v) ((put_defers a _ v).trans hds) hk
  have hs := fun cs b => Region.noSelect_spec hsel i o cs b hi
  have hnd : ∀ c, o.op ≠ .defer c := fun c e => by have := (hops o hmem).2; unfold noDefer at this; rw [e] at this; cases this
  unfold opY at h
  cases hr : rds D ops o with
  | false => rw [hr] at h; exact h.elim
  | true =>
  rw [hr] at h
  have hex := exec_eq ha hs hr
  have sem : (o.semAt (Fr ro).round a.eval) = execOp (ev ε) o := by rw [Oper.semAt_eq _ _ _ hnd, hex]
  cases hg : o.guard with
  | none =>
    simp only [hg] at h
    simp only [wanted_none hg, if_true]
    refine ⟨fun _ _ => trivial, ?_⟩
    rw [sem]
    split at h
    · rename_i x hx
      refine upon_realY (K := fun v w' => K (putD o.dst D) (put o.dst v ε) w') hn ha hds (fun v w => hput v w) ?_
      have : (execOp (ev ε) o).run P w = .ok (.value (ev ε x)) w := by simp only [execOp, hx]; rfl
      rw [this]; exact h
    · rename_i x hx
      refine upon_realY (K := fun v w' => K (putD o.dst D) (put o.dst v ε) w') hn ha hds (fun v w => hput v w) ?_
      have : (execOp (ev ε) o).run P w = .ok (.value (ev ε x)) w := by simp only [execOp, hx]; rfl
      rw [this]; exact h
    · split at h
      · exact uponY_real hY (K := fun v w' => K (putD o.dst D) (put o.dst v ε) w') hn ha hds (fun v w => hput v w) h.out
      · exact upon_realY (K := fun v w' => K (putD o.dst D) (put o.dst v ε) w') hn ha hds (fun v w => hput v w) h.out
  | some g =>
    obtain ⟨j, want⟩ := g
    simp only [hg] at h
    rw [wanted_some hg, yielded_eq ha ops (fun o ho => (hops o ho).1) hg hr]
    replace h := h.out
    split at h
    · rename_i b hb
      by_cases hbw : b = want
      · subst hbw
        simp only [beq_self_eq_true, cond_true] at h
        simp only [beq_self_eq_true, if_true]
        refine ⟨fun _ _ => trivial, ?_⟩
        rw [sem]
        exact upon_realY (K := fun v w' => K (putD o.dst D) (put o.dst v ε) w') hn ha hds (fun v w => hput v w) h.out
      · have e1 : (b == want) = false := by simpa using hbw
        have e2 : ((some b : Option Bool) == some want) = false := by simpa using hbw
        simp only [e1, cond_false] at h
        simp only [e2, Bool.false_eq_true, if_false]
        exact ⟨fun _ _ => trivial, hput _ _ h⟩
    · rename_i hb
      have : ((match gv ops ε j with | .bool b => some b | _ => none) : Option Bool) ≠ some want := by
        split
        · rename_i b hb'; exact absurd hb' (hb b)
        · simp
      rw [if_neg (by simp)]
      exact ⟨fun _ _ => trivial, hput _ _ h⟩
theorem regY_sound (hY : ∀ k l f tmps asn b w Kp K, Y l f tmps asn b w Kp K → RoundIn (Fr ro) k P l f tmps asn b w (EndsS Kp K)) {ops : Array Oper} {n : Nat} {Q : QE} {ds : List Deferred} (hn : NoLook Q) (hops : ∀ o ∈ ops.toList, dstOk n o = true ∧ noDefer o = true) (hsel : Region.noSelect ops = true) {K : KE} :
    ∀ (l : List Oper) (k : Nat), (∀ j, l[j]? = ops[k + j]?) → ∀ (a : Act) (D : Ds) (ε : Env) (w : World), Agr n D a ε → a.defers = ds →
      (∀ a' D' ε' w', Agr n D' a' ε' → a'.defers = ds → K D' ε' w' → Real n Q ds .normal a' w') →
      regY P Y ops (fun ch w => Q (.panic ch) [] E0 w) K l D ε w → wpOpsIn (Fr ro) m P ops (Real n Q ds) (List.range' k l.length) a w
  | [], k, _, a, D, ε, w, ha, hds, hK, h => hK a D ε w ha hds h
  | o :: rest, k, hl, a, D, ε, w, ha, hds, hK, h => by
    have h0 : ops[k]? = some o := by have := hl 0; simpa using this.symm
    simp only [List.length_cons, List.range'_succ]
    unfold wpOpsIn
    rw [h0]
    exact opY_sound hY hn h0 hops hsel ha hds (Kr := wpOpsIn (Fr ro) m P ops (Real n Q ds) (List.range' (k + 1) rest.length)) (fun a' D' ε' w' ha' hds' hk =>
      regY_sound hY hn hops hsel rest (k + 1) (fun j => by have := hl (j + 1); simp only [List.getElem?_cons_succ] at this; rw [this]; congr 1; omega) a' D' ε' w' ha' hds' hK hk) h
theorem wpY_sound (hY : ∀ k l f tmps asn b w Kp K, Y l f tmps asn b w Kp K → RoundIn (Fr ro) k P l f tmps asn b w (EndsS Kp K)) {n : Nat} {G : Ds} {ds : List Deferred} : ∀ (c : Code) (Q : QE), NoLook Q → codeOkY n c = true → ∀ (a : Act) (D : Ds) (ε : Env) (w : World),
    Agr n D a ε → a.defers = ds → wpY P Y G c Q D ε w → c.wpIn (Fr ro) m P (Real n Q ds) a w
  | .skip, Q, _, _, a, D, ε, w, ha, hds, h => wpIn_skip ⟨hds, D, ε, ha, h⟩
  | .label l, Q, _, _, a, D, ε, w, ha, hds, h => wpIn_label ⟨hds, D, ε, ha, h⟩
  | .exit id, Q, _, _, a, D, ε, w, ha, hds, h => wpIn_exit ⟨hds, D, ε, ha, h⟩
  | .ret, Q, _, _, a, D, ε, w, ha, hds, h => wpIn_ret ⟨hds, D, ε, ha, h⟩
  | .region id ops false, Q, hn, hc, a, D, ε, w, ha, hds, h => by
    simp only [codeOkY, Bool.and_eq_true] at hc
    refine wpIn_region ?_
    have := regY_sound (ro := ro) (m := m) hY (ops := ops) (n := n) (Q := Q) (ds := ds) hn (fun o ho => by have := List.all_eq_true.1 hc.1 o ho; simpa using this) hc.2 (K := fun D ε w => Q .normal D ε w) ops.toList 0 (by simp) a D ε w ha hds
      (fun a' D' ε' w' ha' hds' hk => ⟨hds', D', ε', ha', hk⟩) h
    rw [range_eq]
    simpa using this
  | .region id ops true, Q, hn, hc, a, D, ε, w, ha, hds, h => h.elim
  | .seq x y, Q, hn, hc, a, D, ε, w, ha, hds, h => by
    simp only [codeOkY, Bool.and_eq_true] at hc
    unfold wpY at h
    cases hx : straight x with
    | true =>
      rw [hx] at h
      refine wpIn_seq (wpIn_mono (wpY_sound hY x _ (hn.thn _) hc.1 a D ε w ha hds h) (Real.thn_imp fun a D ε w ha hds hk => ?_))
      exact wpY_sound hY y Q hn hc.2 a D ε w ha hds hk
    | false =>
      rw [hx] at h
      refine wpIn_seq (wpIn_mono (wpY_sound hY x _ (hn.thn _) hc.1 a D ε w ha hds h) (Real.thn_imp fun a D ε w ha hds hk => ?_))
      obtain ⟨ha', hk'⟩ := jn_imp ha hk
      exact wpY_sound hY y Q hn hc.2 a G _ w ha' hds hk'
  | .cond c x y, Q, hn, hc, a, D, ε, w, ha, hds, h => by
    simp only [codeOkY, Bool.and_eq_true] at hc
    unfold wpY at h
    cases hr : rd D c with
    | false => rw [hr] at h; exact h.elim
    | true =>
    rw [hr] at h
    replace h := h.out
    split at h
    · rename_i b hb
      refine wpIn_cond (t := b) (by rw [ha.ev c hr]; exact hb) ?_
      cases b
      · exact wpY_sound hY y Q hn hc.2 a D ε w ha hds h
      · exact wpY_sound hY x Q hn hc.1 a D ε w ha hds h
    · exact h.elim
  | .block id c, Q, hn, hc, a, D, ε, w, ha, hds, h => by
    simp only [codeOkY] at hc
    refine wpIn_block (wpIn_mono (wpY_sound hY c _ (hn.blk id) hc a D ε w ha hds h) ?_)
    rintro e a w ⟨hds, D, ε, ha, hq⟩
    cases e <;> first
      | exact ⟨hds, D, ε, ha, hq⟩
      | skip
    rename_i id'
    simp only [Exit.inBlock]
    by_cases hid : id' = id
    · subst hid
      simp only [blk, Nat.beq_refl] at hq
      rw [if_pos rfl]
      exact ⟨hds, D, ε, ha, hq⟩
    · have : Nat.beq id' id = false := Bool.eq_false_iff.2 fun e => hid (Nat.eq_of_beq_eq_true e)
      simp only [blk, this] at hq
      rw [if_neg hid]
      exact ⟨hds, D, ε, ha, hq⟩
  | .loop c, Q, hn, hc, a, D, ε, w, ha, hds, h => by
    simp only [codeOkY] at hc
    unfold wpY at h
    cases hs : sub G D with
    | false => rw [hs] at h; exact h.elim
    | true =>
    rw [hs] at h
    obtain ⟨I, μ, h0, hround⟩ := h
    let f : Act → Env := fun a t => a.tmps.getD t undef
    have hfix : ∀ a : Act, a.tmps.size = n → Agr n G a (keep (f a) G) := fun a h => ⟨h, fun t ht => (keep_apply (f a) G t ht).symm⟩
    have huniq : ∀ (a : Act) (ε : Env) (D : Ds), Agr n D a ε → sub G D = true → keep ε G = keep (f a) G := by
      intro a ε D h hs
      have key : ∀ L : Ds, (∀ t, L.elem t = true → D.elem t = true) → keep ε L = keep (f a) L := by
        intro L
        induction L with
        | nil => intro _; rfl
        | cons t L ih =>
          intro hL
          simp only [keep]
          rw [ih fun u hu => hL u (by simp only [List.elem_eq_mem, List.mem_cons, decide_eq_true_eq] at hu ⊢; exact .inr hu)]
          rw [← h.2 t (hL t (by simp))]
      exact key G fun t ht => sub_elem hs t ht
    refine wpIn_loop (fun a w => a.tmps.size = n ∧ a.defers = ds ∧ I (keep (f a) G) w) (fun a w => μ (keep (f a) G) w) ⟨ha.1, hds, by rw [← huniq a ε D ha hs]; exact h0⟩ ?_
    rintro a w ⟨hsz, hds, hI⟩
    refine wpIn_mono (wpY_sound hY c _ (hn.thn _) hc a G _ w (hfix a hsz) hds (hround _ w hI)) (Real.thn_imp fun a' D' ε' w' ha' hds' hk => ?_)
    unfold jn at hk
    cases hs' : sub G D' with
    | false => rw [hs'] at hk; exact hk.elim
    | true =>
    rw [hs'] at hk
    simp only [] at hk
    rw [huniq a' ε' D' ha' hs'] at hk
    exact ⟨⟨ha'.1, hds', hk.1⟩, hk.2⟩
  | .rangeFunc .., Q, _, _, a, D, ε, w, _, _, h => h.elim
  | .scope _, Q, _, _, a, D, ε, w, _, _, h => h.elim
  | .goto _, Q, _, _, a, D, ε, w, _, _, h => h.elim
  | .refuse _, Q, _, _, a, D, ε, w, _, _, h => h.elim
/-! ### a round -/
def RQn (l : Nat) (R : Ending → World → Prop) (w : World) : Prop := ∃ r, w.heap[l]? = some (.loop r) ∧ R (.returned (.bool true)) (w.putObj l (.loop { r with state := .ready, pending := none }))
def RQj (l : Nat) (R : Ending → World → Prop) (c : Code) (w : World) : Prop := ∃ r, w.heap[l]? = some (.loop r) ∧ R (.returned (.bool false)) (w.putObj l (.loop { r with state := .done, pending := some c }))
def roundQ (l : Nat) (R : Ending → World → Prop) : QE
  | .normal, _, _, w => RQn l R w
  | .ret, _, _, w => RQj l R .ret w
  | .exit id, _, _, w => RQj l R (.exit id) w
  | _, _, _, _ => False
def assignQ (P : Program) (Y : Yd) (G : Ds) (l : Nat) (body : Code) (R : Ending → World → Prop) : QE
  | .normal, D, ε, w => ∃ r, w.heap[l]? = some (.loop r) ∧ r.state = .ready ∧ wpY P Y G body (roundQ l R) D ε (w.putObj l (.loop { r with state := .busy }))
  | _, _, _, _ => False
theorem round_of (hY : ∀ k l f tmps asn b w Kp K, Y l f tmps asn b w Kp K → RoundIn (Fr ro) k P l f tmps asn b w (EndsS Kp K)) {G D : Ds} {n l : Nat} {f : FuncId} {tmps : Array Value} {assign body : Code} {w : World} {R : Ending → World → Prop} {ε : Env} (hro : ro = some l)
    (ha : Agr n D { tmps := tmps, defers := [] } ε) (h1 : codeOkY n assign = true) (h2 : codeOkY n body = true) (h : wpY P Y G assign (assignQ P Y G l body R) D ε w) : RoundIn (Fr none) m P l f tmps assign body w R := by
  subst hro
  refine roundIn_of_wpIn trivial ?_
  refine wpIn_mono (wpY_sound (ro := some l) (m := m) hY assign _ (fun c D ε D' ε' w h => h) h1 _ _ _ _ ha rfl h) ?_
  rintro e a w' ⟨hds, D', ε', ha', hq⟩
  cases e with
  | normal =>
    obtain ⟨r, hr, hst, hb⟩ := hq
    refine ⟨_, run_beginRound hr hst, ?_⟩
    refine wpIn_mono (wpY_sound (ro := some l) (m := m) hY body _ (fun c D ε D' ε' w h => h) h2 _ _ _ _ ha' hds hb) ?_
    rintro e2 a2 w2 ⟨-, D2, ε2, -, hq2⟩
    cases e2 with
    | normal =>
      obtain ⟨r2, hr2, hR⟩ := hq2
      exact ⟨_, _, run_endRound none hr2, hR⟩
    | ret =>
      obtain ⟨r2, hr2, hR⟩ := hq2
      exact ⟨_, _, run_endRound (some .ret) hr2, hR⟩
    | exit id =>
      obtain ⟨r2, hr2, hR⟩ := hq2
      exact ⟨_, _, run_endRound (some (.exit id)) hr2, hR⟩
    | goto t => exact hq2.elim
    | panic c => exact hq2.elim
    | outgrown => exact hq2.elim
  | exit id => exact hq
  | goto l => exact hq
  | ret => exact hq
  | panic c => exact hq
  | outgrown => exact hq
/-- no yield -/
def Y0 : Yd := fun _ _ _ _ _ _ _ _ => False
theorem Y0_round : ∀ k l f tmps asn b w Kp K, Y0 l f tmps asn b w Kp K → RoundIn (Fr ro) k P l f tmps asn b w (EndsS Kp K) := fun _ _ _ _ _ _ _ _ _ h => h.elim
/-- an iterator's call, from its body's transformer -/
theorem callsIn_of_Y (hY : ∀ k l f tmps asn b w Kp K, Y l f tmps asn b w Kp K → RoundIn (Fr none) k P l f tmps asn b w (EndsS Kp K)) (G : Ds) {f : FuncId} {fn : Func} {c : Code} {args : Array Value} {w : World} {Kp : KP} {K : K0}
    (hf : P.funcs[f]? = some fn) (hb : fn.body = some c) (hok : codeOkY fn.ntmps c = true) (hargs : Nat.ble args.size fn.ntmps = true) (hres : fn.results.toList = [])
    (h : wpY P Y G c (postE P [] Kp K) (List.range args.size ++ G) (ε0 args) w) : CallsIn (Fr none) m P f args w (EndsS Kp K) := by
  refine callsIn_of_wp hf hb trivial (wpIn_mono (wpY_sound (ro := none) (m := m) hY c _ (postE_noLook P [] Kp K) hok _ _ _ w (n := fn.ntmps) (ds := []) ⟨by have := Nat.le_of_ble_eq_true hargs; simp; omega, fun t _ => ?_⟩ rfl h) ?_) rfl
  · show (args ++ Array.replicate (fn.ntmps - args.size) undef).getD t undef = args.getD t undef
    simp only [Array.getD_eq_getD_getElem?, Array.getElem?_append, Array.getElem?_replicate]
    split
    · rfl
    · rename_i hlt
      rw [Array.getElem?_eq_none (by omega)]
      split <;> rfl
  · have key : ∀ (a : Act) (w : World), K (.tuple #[]) w → ∃ v, (results fn a.tmps).run P w = .ok v w ∧ K v w := by
      intro a w hk
      refine ⟨.tuple #[], ?_, hk⟩
      have e : fn.results = #[] := by rw [← Array.toArray_toList (xs := fn.results), hres]
      unfold results
      rw [e]
      simp [Sem.run_bind, Result.andThen]
    rintro e a w ⟨hds, D, ε, ha, hq⟩
    cases e with
    | normal => obtain ⟨v, h1, h2⟩ := key a w hq; exact ⟨hds, v, h1, h2⟩
    | ret => obtain ⟨v, h1, h2⟩ := key a w hq; exact ⟨hds, v, h1, h2⟩
    | panic ch => exact ⟨hds, hq⟩
    | exit id => exact hq.elim
    | goto l => exact hq.elim
    | outgrown => exact hq.elim
/-- the statement itself, where no other loop of the kind is about it -/
theorem wpIn_range {g : Operand} {ps : Array Tmp} {assign body : Code} {Q : Exit → Act → World → Prop} {a : Act} {w : World} {f : FuncId} {fs caps : Array Value} (hg : a.eval g = .func (.func f) fs caps)
    (hinv : ∀ l w, (do let d ← Deferred.ofValue (.func (.func f) fs caps) #[.func (.yield l) #[] #[]]; invoke d.target d.args : Sem Next).run P w = .ok (.enter f (#[.func (.yield l) #[] #[]] ++ caps)) w)
    (h : ∀ fn, CallsIn (Fr none) (m - 1) P f (#[.func (.yield (w.heap.size + 1)) #[] #[]] ++ caps)
      ((w.alloc (.deferred (some []))).alloc (.loop { state := .ready, pending := none, fn, tmps := a.tmps, params := ps, assign, body, defers := w.heap.size }))
      (rangePost (Fr none) m P (w.heap.size + 1) Q { a with defers := [{ target := .collected w.heap.size, args := #[] }] ++ a.defers })) :
    (Code.rangeFunc g ps assign body).wpIn (Fr none) m P Q a w := by
  refine wpIn_rangeFunc fun fn _ => ?_
  have hi := hinv (w.heap.size + 1) ((w.alloc (.deferred (some []))).alloc (.loop { state := .ready, pending := none, fn, tmps := a.tmps, params := ps, assign, body, defers := w.heap.size }))
  rw [Sem.run_bind] at hi
  cases hd : (Deferred.ofValue (.func (.func f) fs caps) #[.func (.yield (w.heap.size + 1)) #[] #[]]).run P ((w.alloc (.deferred (some []))).alloc (.loop { state := .ready, pending := none, fn, tmps := a.tmps, params := ps, assign, body, defers := w.heap.size })) with
  | halt x w' => rw [hd] at hi; cases hi
  | ok d w' =>
    rw [hd] at hi
    have hw' : (invoke d.target d.args).run P w' = .ok (.enter f (#[.func (.yield (w.heap.size + 1)) #[] #[]] ++ caps)) ((w.alloc (.deferred (some []))).alloc (.loop { state := .ready, pending := none, fn, tmps := a.tmps, params := ps, assign, body, defers := w.heap.size })) := hi
    refine ⟨w.heap.size + 1, [{ target := .collected w.heap.size, args := #[] }], _, d, w', f, _, _, run_enterLoop_outer fn a.tmps ps assign body, ?_, fun _ _ => trivial, hw', (fun h => by cases h), h fn⟩
    rw [← hd]
    show (Deferred.ofValue (a.eval g) (#[Operand.const (.func (.yield (w.heap.size + 1)) #[] #[])].map a.eval)).run P _ = _
    rw [hg, show (#[Operand.const (.func (.yield (w.heap.size + 1)) #[] #[])].map a.eval) = #[.func (.yield (w.heap.size + 1)) #[] #[]] by simp; rfl]
/-- rounds as they are -/
def Yr (P : Program) : Yd := fun l f tmps asn b w Kp K => ∀ k, RoundIn (Fr none) k P l f tmps asn b w (EndsS Kp K)
theorem Yr_round : ∀ k l f tmps asn b w Kp K, Yr P l f tmps asn b w Kp K → RoundIn (Fr none) k P l f tmps asn b w (EndsS Kp K) := fun k _ _ _ _ _ _ _ _ h => h k
/-- an object that is no row of cells -/
def objO (o : Obj) : Ob where
  rep b fp w := fp = [b] ∧ w.heap[b]? = some o
  loc := by
    rintro d fp w w' ⟨rfl, h⟩ hs
    exact ⟨rfl, by rw [hs d (by simp)]; exact h⟩
theorem Rep.obj {B : Nat} {w0 w : World} {T : Store} {b : Nat} {o : Obj} (h : Rep B w0 T w) (hb : T b = some (objO o)) : w.heap[b]? = some o := by
  obtain ⟨fp, h1, _⟩ := h.take hb
  exact h1.2
theorem Rep.newObj {B : Nat} {w0 w : World} {T : Store} (h : Rep B w0 T w) (o : Obj) : Rep B w0 (upT T w.heap.size (objO o)) (w.alloc o) :=
  h.new (Grow.alloc w _) (fp := [w.heap.size]) ⟨rfl, World.alloc_heap_new w o⟩ (by simp) (by simp)
theorem Rep.putObj {B : Nat} {w0 w : World} {T : Store} {b : Nat} {o o' : Obj} (h : Rep B w0 T w) (hb : T b = some (objO o)) : Rep B w0 (upT T b (objO o')) (w.putObj b o') := by
  obtain ⟨fp, ⟨rfl, hg⟩, hdf, hlt, hupd⟩ := h.take hb
  refine hupd (objO o') [b] _ ⟨rfl, World.putObj_heap_same (hlt b (by simp)).2⟩ (by simp) (fun j hj => .inl hj) (fun j hj => by show j < (w.heap.setIfInBounds _ _).size; rw [Array.size_setIfInBounds]; exact (hlt j hj).2) rfl rfl rfl (by show _ ≤ (w.heap.setIfInBounds _ _).size; simp) (fun j hj hn => World.putObj_heap_other (fun e => hn (by simp [e])))
theorem yield_run {l : Nat} {v : Value} {w : World} {r : Loop} {p : Tmp} (h : w.heap[l]? = some (.loop r)) (hp : r.params = #[p]) : (vcall (.func (.yield l) #[] #[]) #[v]).run P w = .ok (.round l r.fn (r.tmps.setIfInBounds p v) r.assign r.body) w := by
  have h1 := run_yield (P := P) (args := #[v]) h (by rw [hp]; rfl)
  rw [hp] at h1
  have e : (vcall (.func (.yield l) #[] #[]) #[v]).run P w = (Instr.yield l #[v]).run P w := rfl
  rw [e, h1]
  simp
/-- what a function hands back -/
theorem results_RetL {fn : Func} {n : Nat} {a : Act} {D : Ds} {ε : Env} {w : World} {K : K0} (ha : Agr n D a ε) (hall : fn.results.toList.all (resOk D) = true) (hr : RetL P ε w K fn.results.toList []) : ∃ v, (results fn a.tmps).run P w = .ok v w ∧ K v w := by
  obtain ⟨vs, h1, h2⟩ := retL_run P D ε a.tmps ha.2 w K _ _ hall hr
  refine ⟨one vs, ?_, by simpa using h2⟩
  have e : fn.results = fn.results.toList.toArray := rfl
  unfold results
  rw [Sem.run_bind, e, List.mapM_toArray, Sem.run_map]
  refine Eq.trans (congrArg (fun r => ((r : Result (List Value)).andThen _).andThen _) h1) ?_
  simp only [Result.andThen]
  show Result.ok _ w = _
  congr 1
  unfold one
  match vs with
  | [] => rfl
  | [v] => rfl
  | a :: b :: c => simp
/-- the end of a function whose loop has left one mark -/
theorem leaves_mark {F : Fence} {n b n' : Nat} {fn : Func} {a : Act} {D : Ds} {ε : Env} {w : World} {Kp : KP} {K : K0} (ha : Agr n' D a ε) (hb : w.heap[b]? = some (.deferred (some []))) (hall : fn.results.toList.all (resOk D) = true)
    (hr : RetL P ε (w.putObj b (.deferred none)) K fn.results.toList []) : LeavesInM F n P fn a.tmps (EndsS Kp K) ([{ target := .collected b, args := #[] }] ++ []) .returning w := by
  obtain ⟨v, h1, h2⟩ := results_RetL (P := P) ha hall hr
  exact ⟨by simp, .inl ⟨_, _, rfl, run_takeDeferred hb, v, h1, h2⟩⟩
/-- straight code ahead of something else -/
def restQ (n : Nat) (ds : List Deferred) (X : Act → World → Prop) : QE
  | .normal, D, ε, w => ∀ a, Agr n D a ε → a.defers = ds → X a w
  | _, _, _, _ => False
theorem wpIn_seqY {n : Nat} {x y : Code} {Q : Exit → Act → World → Prop} {a : Act} {w : World} {D : Ds} {ε : Env} {ds : List Deferred} (ha : Agr n D a ε) (hds : a.defers = ds) (hok : codeOkY n x = true)
    (h : wpY P Y0 [] x (restQ n ds (y.wpIn (Fr ro) m P Q)) D ε w) : (Code.seq x y).wpIn (Fr ro) m P Q a w := by
  refine wpIn_seq (wpIn_mono (wpY_sound (ro := ro) (n := n) (G := []) (ds := ds) (m := m) Y0_round x _ (fun _ _ _ _ _ _ h => h) hok _ _ _ w ha hds h) ?_)
  rintro e a w ⟨hds, D, ε, ha, hq⟩
  cases e with
  | normal => exact hq a ha hds
  | _ => exact hq.elim
theorem agr_start {n : Nat} {fn : Func} {args : Array Value} (hn : fn.ntmps = n) (h : args.size ≤ n) : Agr n (List.range args.size) { tmps := args ++ Array.replicate (fn.ntmps - args.size) undef, defers := [] } (ε0 args) := by
  subst hn
  refine ⟨by simp; omega, fun t _ => ?_⟩
  show (args ++ Array.replicate (fn.ntmps - args.size) undef).getD t undef = args.getD t undef
  simp only [Array.getD_eq_getD_getElem?, Array.getElem?_append, Array.getElem?_replicate]
  split
  · rfl
  · rename_i hlt
    rw [Array.getElem?_eq_none (by omega)]
    split <;> rfl
theorem ends_in {F : Fence} {n : Nat} {f : FuncId} {args : Array Value} {w : World} {R : Ending → World → Prop} (h : CallsIn F n P f args w (EndsS (fun ch w => R (.panicked ch) w) (fun v w => R (.returned v) w))) : CallsIn F n P f args w R :=
  CallsIn.mono h fun e w he => by
    cases e with
    | returned v => exact he
    | panicked ch => exact he
    | outgrown => exact he.elim
/-- a loop whose counter lies in slot c and starts at z: n rounds at most; s is whatever else it carries -/
theorem loop_from {σ : Type} {R : (Env → World → Prop) → Env → World → Prop} {ε : Env} {w : World} (E : Nat → σ → Env) (c : Nat) (kd : IntKind) (z : Int) (n : Nat) (Inv : Nat → σ → World → Prop) (s0 : σ)
    (hc : ∀ i s, E i s c = .int kd (z + i)) (hε : ε = E 0 s0) (h0 : Inv 0 s0 w)
    (step : ∀ i s w K, i ≤ n → Inv i s w → (i < n → ∀ s' w', Inv (i + 1) s' w' → K (E (i + 1) s') w') → R K (E i s) w) : ∃ I μ, LoopE I μ R ε w := by
  refine ⟨fun ε w => ∃ i s, i ≤ n ∧ ε = E i s ∧ Inv i s w, fun ε _ => match ε c with | .int _ x => (z + n - x).toNat | _ => 0, ⟨0, s0, Nat.zero_le _, hε, h0⟩, ?_⟩
  rintro ε w ⟨i, s, hi, rfl, hI⟩
  refine step i s w _ hi hI (fun hlt s' w' hI' => ⟨⟨i + 1, s', hlt, rfl, hI'⟩, ?_⟩)
  rw [hc, hc]
  simp only
  omega
end
end Go.Sh
namespace Go.Proofs.YtebmnfmiphbgdaaGreatDoor
open Go.Sh
set_option maxRecDepth 100000
def rfOf : Code → Option (Operand × Array Tmp × Code × Code)
  | .rangeFunc g ps a b => some (g, ps, a, b)
  | .seq x y | .cond _ x y => match rfOf x with | some r => some r | none => rfOf y
  | .block _ c | .loop c | .scope c => rfOf c
  | _ => none
def asOf (c : Code) : Code := match rfOf c with | some (_, _, a, _) => a | none => .skip
def bdOf (c : Code) : Code := match rfOf c with | some (_, _, _, b) => b | none => .skip
/-- wisp/prim.All$1 -/
def F86Y (Y : Yd) (x0 : Value) (w : World) (Kp : KP) (K : K0) : Prop :=
  ∃ I μ, LoopE I μ (fun K2 ε1 w =>
  S P (vbin .lss 3 false true (ε1 2) (Value.int IntKind.i64 64)) w Kp fun v3 w =>
  C v3 (S P (vcall (Value.func (Fn.func 52) #[] #[]) #[(ε1 2)]) w Kp fun v4 w =>
  SY P Y (vcall (ε1 0) #[v4]) w Kp fun v5 w =>
  S P (vun .not v5) w Kp fun v6 w =>
  C v6 (K (Value.tuple #[]) w)
  (S P (vbin .add 3 false true (ε1 2) (Value.int IntKind.i64 1)) w Kp fun v7 w =>
  K2 (upd 0 (ε1 0) (upd 2 v7 E0)) w))
  (K (Value.tuple #[]) w)) (upd 0 x0 (upd 2 (Value.int IntKind.i64 1) E0)) w
theorem F86Y_eq (Y : Yd) (x0 : Value) (w : World) (Kp : KP) (K : K0) : F86Y Y x0 w Kp K = wpY P Y [0, 2] (bodyOf Tryz.f86) (postE P [] Kp K) (List.range 1 ++ [0, 2]) (ε0 #[x0]) w := by kernel_rfl
theorem F86Y_calls {n : Nat} {Y : Yd} (hY : ∀ k l f tmps asn b w Kp K, Y l f tmps asn b w Kp K → RoundIn (Fr none) k P l f tmps asn b w (EndsS Kp K)) (x0 : Value) {w : World} {Kp : KP} {K : K0} (h : F86Y Y x0 w Kp K) : CallsIn (Fr none) n P 86 #[x0] w (EndsS Kp K) :=
  callsIn_of_Y hY [0, 2] Tryz.func86 (by kernel_rfl) (by kernel_rfl) (by kernel_rfl) (by kernel_rfl) (F86Y_eq Y x0 w Kp K ▸ h)
theorem F33as_eq (G : Ds) (Q : QE) (ε : Env) (w : World) : wpY P Y0 G (asOf (bodyOf Tryz.f33)) Q [1, 2, 3, 6] ε w =
  (S P (valloc 43) w (fun ch w => Q (.panic ch) [] E0 w) fun v1 w =>
  S P (vstore 43 v1 (ε 6)) w (fun ch w => Q (.panic ch) [] E0 w) fun v2 w =>
  Q .normal [4, 1, 2, 3, 6] (upd 4 v1 ε) w) := by kernel_rfl
theorem F33bd_eq (G : Ds) (l : Nat) (R : Ending → World → Prop) (ε : Env) (w : World) : wpY P Y0 G (bdOf (bodyOf Tryz.f33)) (roundQ l R) [4, 1, 2, 3, 6] ε w =
  (S P (vload 9 (ε 1)) w (fun _ _ => False) fun v1 w =>
  S P (vbin .neq 9 false true v1 (Value.string { data := #[] })) w (fun _ _ => False) fun v2 w =>
  GS v2 true P (vfield 43 (ε 4) 1) w (fun _ _ => False) fun v3 w =>
  GS v2 true P (vload 9 v3) w (fun _ _ => False) fun v4 w =>
  GS v2 true P (vload 9 (ε 1)) w (fun _ _ => False) fun v5 w =>
  GS v2 true P (vbin .eql 9 false false v4 v5) w (fun _ _ => False) fun v6 w =>
  S P (vpick v2 v6 (Value.bool false)) w (fun _ _ => False) fun v7 w =>
  C v7 (S P (vload 43 (ε 4)) w (fun _ _ => False) fun v8 w =>
  S P (vstore 43 (ε 2) v8) w (fun _ _ => False) fun v9 w =>
  S P (vstore 4 (ε 3) (Value.bool true)) w (fun _ _ => False) fun v10 w =>
  RQj l R .ret w)
  (RQn l R w)) := by kernel_rfl
end Go.Proofs.YtebmnfmiphbgdaaGreatDoor
namespace Go.Proofs.YtebmnfmiphbgdaaGreatDoor
open Go.Sh
def fstC : Code → Code | .seq a _ => a | c => c
def sndC : Code → Code | .seq _ b => b | c => c
noncomputable abbrev b33 : Code := bodyOf Tryz.f33
theorem b33_eq : b33 = .seq (fstC b33) (.seq (.seq (fstC (fstC (sndC b33))) (.block 0 (.rangeFunc (.tmp 5) #[6] (asOf b33) (bdOf b33)))) (sndC (sndC b33))) := by kernel_rfl
theorem r33_0 (G : Ds) (Q : QE) (ε : Env) (w : World) : wpY P Y0 G (fstC b33) Q [0] ε w =
  (S P (vbox 9 (ε 0)) w (fun ch w => Q (.panic ch) [] E0 w) fun v1 w =>
  S P (valloc 43) w (fun ch w => Q (.panic ch) [] E0 w) fun v2 w =>
  S P (valloc 4) w (fun ch w => Q (.panic ch) [] E0 w) fun v3 w =>
  Q .normal [3, 2, 1, 0] (upd 3 v3 (upd 2 v2 (upd 1 v1 ε))) w) := by kernel_rfl
theorem r33_1 (G : Ds) (Q : QE) (ε : Env) (w : World) : wpY P Y0 G (fstC (fstC (sndC b33))) Q [3, 2, 1, 0] ε w =
  (S P (vcall (Value.func (Fn.func 60) #[] #[]) #[]) w (fun ch w => Q (.panic ch) [] E0 w) fun v1 w =>
  Q .normal [5, 3, 2, 1, 0] (upd 5 v1 ε) w) := by kernel_rfl
section
variable {w w0 : World} {Kp : KP} {K : K0} {B : Nat} {T : Store}
theorem R_eqlStr {t : TypeId} {cx cy : Bool} (a b : ByteArray) : R P (vbin .eql t cx cy (.string a) (.string b)) (.bool (a.toList == b.toList)) := R_vv fun w => by
  rw [binOp_string_eql]
  cases cx <;> cases cy <;> rfl
theorem R_neqStr {t : TypeId} {cx cy : Bool} (a b : ByteArray) : R P (vbin .neq t cx cy (.string a) (.string b)) (.bool (!(a.toList == b.toList))) := R_vv fun w => by
  rw [binOp_string_neq]
  cases cx <;> cases cy <;> rfl
/-- the record of the range in Named -/
noncomputable def rec33 (fn : FuncId) (tmps : Array Value) (D : Nat) (st : LoopState) (pend : Option Code) : Loop :=
  { state := st, pending := pend, fn := fn, tmps := tmps, params := #[6], assign := asOf b33, body := bdOf b33, defers := D }
/-- what lies in memory between two rounds -/
noncomputable def st33 (n1 n2 n3 D l : Nat) (s : ByteArray) (fn : FuncId) (tmps : Array Value) (r2 r3 : Array Value) (st : LoopState) (pend : Option Code) : Store :=
  upT (upT (upT (upT (upT (fun _ => none) n1 (raw #[.string s] 9)) n2 (raw r2 43)) n3 (raw r3 4)) D (objO (.deferred (some [])))) l (objO (.loop (rec33 fn tmps D st pend)))
structure Ne5 (n1 n2 n3 D l : Nat) : Prop where
  a12 : n1 ≠ n2
  a13 : n1 ≠ n3
  a1D : n1 ≠ D
  a1l : n1 ≠ l
  a23 : n2 ≠ n3
  a2D : n2 ≠ D
  a2l : n2 ≠ l
  a3D : n3 ≠ D
  a3l : n3 ≠ l
  aDl : D ≠ l
section
variable {n1 n2 n3 D l : Nat} {s : ByteArray} {fn : FuncId} {tmps r2 r3 : Array Value} {st : LoopState} {pend : Option Code}
theorem Ne5.l1 (N : Ne5 n1 n2 n3 D l) : st33 n1 n2 n3 D l s fn tmps r2 r3 st pend n1 = some (raw #[.string s] 9) := by
  unfold st33; rw [upT_ne N.a1l, upT_ne N.a1D, upT_ne N.a13, upT_ne N.a12, upT_same]
theorem Ne5.l2 (N : Ne5 n1 n2 n3 D l) : st33 n1 n2 n3 D l s fn tmps r2 r3 st pend n2 = some (raw r2 43) := by
  unfold st33; rw [upT_ne N.a2l, upT_ne N.a2D, upT_ne N.a23, upT_same]
theorem Ne5.l3 (N : Ne5 n1 n2 n3 D l) : st33 n1 n2 n3 D l s fn tmps r2 r3 st pend n3 = some (raw r3 4) := by
  unfold st33; rw [upT_ne N.a3l, upT_ne N.a3D, upT_same]
theorem Ne5.lD (N : Ne5 n1 n2 n3 D l) : st33 n1 n2 n3 D l s fn tmps r2 r3 st pend D = some (objO (.deferred (some []))) := by
  unfold st33; rw [upT_ne N.aDl, upT_same]
theorem Ne5.ll (N : Ne5 n1 n2 n3 D l) : st33 n1 n2 n3 D l s fn tmps r2 r3 st pend l = some (objO (.loop (rec33 fn tmps D st pend))) := by
  unfold st33; rw [upT_same]
theorem Ne5.set2 (N : Ne5 n1 n2 n3 D l) (r : Array Value) : upT (st33 n1 n2 n3 D l s fn tmps r2 r3 st pend) n2 (raw r 43) = st33 n1 n2 n3 D l s fn tmps r r3 st pend := by
  unfold st33; rw [upT_comm _ N.a2l.symm, upT_comm _ N.a2D.symm, upT_comm _ N.a23.symm, upT_upT]
theorem Ne5.set3 (N : Ne5 n1 n2 n3 D l) (r : Array Value) : upT (st33 n1 n2 n3 D l s fn tmps r2 r3 st pend) n3 (raw r 4) = st33 n1 n2 n3 D l s fn tmps r2 r st pend := by
  unfold st33; rw [upT_comm _ N.a3l.symm, upT_comm _ N.a3D.symm, upT_upT]
theorem Ne5.setl (N : Ne5 n1 n2 n3 D l) (st' : LoopState) (pend' : Option Code) : upT (st33 n1 n2 n3 D l s fn tmps r2 r3 st pend) l (objO (.loop (rec33 fn tmps D st' pend'))) = st33 n1 n2 n3 D l s fn tmps r2 r3 st' pend' := by
  unfold st33; rw [upT_upT]
/-- one round -/
theorem round33 {i : Int} {k : Nat} (N : Ne5 n1 n2 n3 D l) (h : Rep B w0 (st33 n1 n2 n3 D l s fn tmps zero43 #[.bool false] .ready none) w) (hs : s.toList ≠ []) (ha : Agr 17 [1, 2, 3, 6] { tmps := tmps.setIfInBounds 6 (.agg (primCells i)), defers := [] } (upd 6 (.agg (primCells i)) (upd 1 (ptr n1 0) (upd 2 (ptr n2 0) (upd 3 (ptr n3 0) E0)))))
    {R : Ending → World → Prop} (h1 : (nameB i).toList ≠ s.toList → ∀ w', Rep B w0 (st33 n1 n2 n3 D l s fn tmps zero43 #[.bool false] .ready none) w' → R (.returned (.bool true)) w')
    (h2 : (nameB i).toList = s.toList → ∀ w', Rep B w0 (st33 n1 n2 n3 D l s fn tmps (primCells i) #[.bool true] .done (some .ret)) w' → R (.returned (.bool false)) w') :
    RoundIn (Fr none) k P l fn (tmps.setIfInBounds 6 (.agg (primCells i))) (asOf b33) (bdOf b33) w R := by
  refine round_of (ro := some l) (G := []) (Y0_round (ro := some l)) rfl ha (by kernel_rfl) (by kernel_rfl) ?_
  rw [F33as_eq]
  refine S_allocR zr43 h (fun b w1 hb h1' => ?_)
  refine S_storeRowR sz43 h1' (upT_same ..) rfl rfl (fun w2 h2' => ?_)
  rw [upT_upT] at h2'
  have hbl : b ≠ l := fun e => by rw [e, N.ll] at hb; cases hb
  have hl2 : upT (st33 n1 n2 n3 D l s fn tmps zero43 #[.bool false] .ready none) b (raw (primCells i) 43) l = some (objO (.loop (rec33 fn tmps D .ready none))) := by rw [upT_ne hbl.symm]; exact N.ll
  refine ⟨_, h2'.obj hl2, rfl, ?_⟩
  rw [F33bd_eq]
  try simp (decide := true) only [upd_hit, upd_miss]
  have h3 := h2'.putObj (o' := .loop { rec33 fn tmps D .ready none with state := .busy }) hl2
  rw [upT_comm _ hbl, show upT (st33 n1 n2 n3 D l s fn tmps zero43 #[.bool false] .ready none) l (objO (.loop { rec33 fn tmps D .ready none with state := .busy })) = st33 n1 n2 n3 D l s fn tmps zero43 #[.bool false] .busy none from N.setl .busy none] at h3
  generalize w2.putObj l (.loop { rec33 fn tmps D .ready none with state := .busy }) = w3 at h3
  have hb' : st33 n1 n2 n3 D l s fn tmps zero43 #[.bool false] .busy none b = none := by
    have hb0 : ∀ (st : LoopState), st33 n1 n2 n3 D l s fn tmps zero43 #[.bool false] st none b = st33 n1 n2 n3 D l s fn tmps zero43 #[.bool false] .ready none b := fun st => by unfold st33; rw [upT_ne hbl, upT_ne hbl]
    rw [hb0]; exact hb
  have g1 := h3.raw (look_new N.l1 hb')
  have gb := h3.raw (upT_same ..)
  have ab : At (primCells i) (0 + 1) (.string (nameB i)) := ⟨rfl⟩
  refine S_loadB pl9 g1 rfl ?_
  refine S_R (R_neqStr _ _) ?_
  rw [show (!(s.toList == (⟨#[]⟩ : ByteArray).toList)) = true by
    rw [show (⟨#[]⟩ : ByteArray).toList = [] by rw [ByteArray.toList_eq]]; simp [hs]]
  refine GS_t (S_R (R_f43_1 _ _) (GS_t (S_loadX pl9 gb ab (GS_t (S_loadB pl9 g1 rfl (GS_t (S_R (R_eqlStr _ _) ?_)))))))
  refine S_R (R_pick_t _ _) ?_
  by_cases hn : (nameB i).toList = s.toList
  · rw [show ((nameB i).toList == s.toList) = true by simpa using hn]
    refine C_t ?_
    refine S_loadAllR rw43 sz43 h3 (upT_same ..) rfl ?_
    refine S_storeRowR sz43 h3 (look_new N.l2 hb') rfl rfl (fun w4 h4 => ?_)
    have n2b : n2 ≠ b := ne_new N.l2 hb'
    have n3b : n3 ≠ b := ne_new N.l3 hb'
    rw [upT_comm _ n2b.symm, N.set2] at h4
    have l3' : st33 n1 n2 n3 D l s fn tmps (primCells i) #[.bool false] .busy none n3 = some (raw #[.bool false] 4) := N.l3
    refine S_storeR sz4 h4 (by rw [upT_ne n3b]; exact l3') rfl rfl (fun w5 h5 => ?_)
    rw [upT_comm _ n3b.symm, show (#[Value.bool false].setIfInBounds 0 (.bool true)) = #[.bool true] from rfl, N.set3] at h5
    have lb5 : (upT (st33 n1 n2 n3 D l s fn tmps (primCells i) #[.bool true] .busy none) b (raw (primCells i) 43)) l = some (objO (.loop (rec33 fn tmps D .busy none))) := by rw [upT_ne hbl.symm]; exact N.ll
    refine ⟨_, h5.obj lb5, h2 hn _ ?_⟩
    have h6 := h5.putObj (o' := .loop (rec33 fn tmps D .done (some .ret))) lb5
    rw [upT_comm _ hbl, N.setl] at h6
    refine h6.drop1 ?_
    unfold st33 at hb' ⊢
    rw [upT_ne hbl] at hb' ⊢
    have hbD : b ≠ D := fun e => by rw [e, upT_same] at hb'; cases hb'
    rw [upT_ne hbD] at hb' ⊢
    rw [upT_ne n3b.symm] at hb' ⊢
    rw [upT_ne n2b.symm] at hb' ⊢
    exact hb'
  · rw [show ((nameB i).toList == s.toList) = false by simpa using hn]
    refine C_f ?_
    have lb5 : (upT (st33 n1 n2 n3 D l s fn tmps zero43 #[.bool false] .busy none) b (raw (primCells i) 43)) l = some (objO (.loop (rec33 fn tmps D .busy none))) := by rw [upT_ne hbl.symm]; exact N.ll
    refine ⟨_, h3.obj lb5, h1 hn _ ?_⟩
    have h6 := h3.putObj (o' := .loop (rec33 fn tmps D .ready none)) lb5
    rw [upT_comm _ hbl, N.setl] at h6
    exact h6.drop1 hb
/-- the iterator over the primitives, till the name is met -/
theorem iter33 {k0 n : Nat} (N : Ne5 n1 n2 n3 D l) (hk : 1 ≤ k0 ∧ k0 < 64) (he : (nameB k0).toList = s.toList) (hne : ∀ i : Nat, 1 ≤ i → i < k0 → (nameB i).toList ≠ s.toList) (hs : s.toList ≠ []) (hB : 4 ≤ B) (ht : Tabs w0)
    (h : Rep B w0 (st33 n1 n2 n3 D l s fn tmps zero43 #[.bool false] .ready none) w) (ha : ∀ i : Int, Agr 17 [1, 2, 3, 6] { tmps := tmps.setIfInBounds 6 (.agg (primCells i)), defers := [] } (upd 6 (.agg (primCells i)) (upd 1 (ptr n1 0) (upd 2 (ptr n2 0) (upd 3 (ptr n3 0) E0)))))
    (hK : ∀ w', Rep B w0 (st33 n1 n2 n3 D l s fn tmps (primCells k0) #[.bool true] .done (some .ret)) w' → K (.tuple #[]) w') :
    CallsIn (Fr none) n P 86 #[.func (.yield l) #[] #[]] w (EndsS Kp K) := by
  refine F86Y_calls (Y := Yr P) Yr_round _ ?_
  unfold F86Y
  refine ⟨fun ε w => ∃ i : Nat, 1 ≤ i ∧ i ≤ k0 ∧ ε = upd 0 (.func (.yield l) #[] #[]) (upd 2 (i64 i) E0) ∧ Rep B w0 (st33 n1 n2 n3 D l s fn tmps zero43 #[.bool false] .ready none) w, fun ε _ => match ε 2 with | .int _ x => 64 - x.toNat | _ => 0, ⟨1, Nat.le_refl _, hk.1, rfl, h⟩, ?_⟩
  rintro ε w ⟨i, h1, h2, rfl, h⟩
  try simp (decide := true) only [upd_hit, upd_miss]
  refine S_R (R_lss _ _ _ _ _ _) ?_
  rw [decide_eq_true (by omega : (i : Int) < 64)]
  refine C_t ?_
  refine S_c52 (primOf_spec ⟨by omega, by omega⟩ h hB ht fun w1 g1 => ?_)
  refine ⟨?_⟩
  rw [yield_run (g1.obj N.ll) rfl]
  intro k
  refine round33 N g1 hs (ha i) (fun hn w2 g2 => ?_) (fun hy w2 g2 => ?_)
  · refine S_R (R_not _) (C_f (S_R (R_addi (by omega)) ?_))
    refine ⟨⟨i + 1, by omega, ?_, by push_cast; rfl, g2⟩, ?_⟩
    · have : i ≠ k0 := fun e => hn (by rw [e]; exact he)
      omega
    · try simp (decide := true) only [upd_hit, upd_miss]
      omega
  · have : i = k0 := by
      rcases Nat.lt_or_ge i k0 with hl | hl
      · exact absurd hy (hne i h1 hl)
      · omega
    subst this
    exact S_R (R_not _) (C_t (hK _ g2))
end
end
end Go.Proofs.YtebmnfmiphbgdaaGreatDoor
namespace Go.Proofs.YtebmnfmiphbgdaaGreatDoor
open Go.Sh
section
variable {s : ByteArray} {w w0 : World} {Kp : KP} {K : K0} {B : Nat} {T : Store}
theorem Tabs.lift (ht : Tabs w0) (hB : 4 ≤ B) (h : Rep B w0 T w) : Tabs w :=
  ⟨fun i hi => below_cell h (by omega) (ht.names i hi), fun i hi => below_cell h (by omega) (ht.takes i hi), fun i hi => below_cell h (by omega) (ht.leaves i hi), fun i hi => below_cell h (by omega) (ht.costs i hi)⟩
theorem agr33 {a : Act} {n1 n2 n3 : Nat} {v : Value} (ha : Agr 17 [5, 3, 2, 1, 0] a (upd 5 v (upd 3 (ptr n3 0) (upd 2 (ptr n2 0) (upd 1 (ptr n1 0) (ε0 #[.string s])))))) (x : Value) :
    Agr 17 [1, 2, 3, 6] { tmps := a.tmps.setIfInBounds 6 x, defers := [] } (upd 6 x (upd 1 (ptr n1 0) (upd 2 (ptr n2 0) (upd 3 (ptr n3 0) E0)))) := by
  have h1 := ha.2 1 rfl
  have h2 := ha.2 2 rfl
  have h3 := ha.2 3 rfl
  refine ⟨by simp [ha.1], fun t ht => ?_⟩
  simp only [List.elem_eq_mem, List.mem_cons, List.not_mem_nil, or_false, decide_eq_true_eq] at ht
  have key : ∀ u : Nat, u ≠ 6 → (a.tmps.setIfInBounds 6 x).getD u undef = a.tmps.getD u undef := fun u hu => by
    simp only [Array.getD_eq_getD_getElem?, Array.getElem?_setIfInBounds, if_neg (Ne.symm hu)]
  rcases ht with rfl | rfl | rfl | rfl
  · rw [key 1 (by decide), h1]; rfl
  · rw [key 2 (by decide), h2]; rfl
  · rw [key 3 (by decide), h3]; rfl
  · simp [Array.getD_eq_getD_getElem?, Array.getElem?_setIfInBounds, ha.1, upd_hit]
theorem named_local {k0 : Nat} (hk : 1 ≤ k0 ∧ k0 < 64) (he : (nameB k0).toList = s.toList) (hne : ∀ i : Nat, 1 ≤ i → i < k0 → (nameB i).toList ≠ s.toList) (hs : s.toList ≠ []) (hB : 4 ≤ w.heap.size) (ht : Tabs w)
    (hK : ∀ w', Grow w w' → K (.tuple #[.agg (primCells k0), .bool true]) w') : Calls P 33 #[.string s] w (EndsS Kp K) := by
  refine callsFr_iff (ro := none) (n := 0) ?_
  refine callsIn_of_wp_marks (F := Fr none) Tryz.func33 (c := b33) (by kernel_rfl) trivial ?_ rfl
  rw [b33_eq]
  refine wpIn_seqY (n := 17) (D := [0]) (ε := ε0 #[.string s]) (ds := []) (agr_start (n := 17) (by kernel_rfl) (by show 1 ≤ 17; decide)) rfl (by kernel_rfl) ?_
  rw [r33_0]
  refine S_boxR (Rep.start w) (fun n1 w1 hn1 h1 => ?_)
  refine S_allocR zr43 h1 (fun n2 w2 hn2 h2 => ?_)
  refine S_allocR zr4 h2 (fun n3 w3 hn3 h3 => ?_)
  intro a ha hds
  refine wpIn_seq (wpIn_seqY (n := 17) ha hds (by kernel_rfl) ?_)
  rw [r33_1]
  refine S_c60 (F60_calls ?_)
  intro a ha hds
  have ne12 : n1 ≠ n2 := fun e => by subst e; rw [upT_same] at hn2; cases hn2
  have ne13 : n1 ≠ n3 := fun e => by subst e; rw [upT_ne ne12, upT_same] at hn3; cases hn3
  have ne23 : n2 ≠ n3 := fun e => by subst e; rw [upT_same] at hn3; cases hn3
  have l1 : n1 < w3.heap.size := (h3.lt (o := raw #[.string s] 9) (by rw [upT_ne ne13, upT_ne ne12, upT_same]; rfl)).2
  have l2 : n2 < w3.heap.size := (h3.lt (o := raw zero43 43) (by rw [upT_ne ne23, upT_same]; rfl)).2
  have l3 : n3 < w3.heap.size := (h3.lt (o := raw #[.bool false] 4) (by rw [upT_same]; rfl)).2
  refine wpIn_block (wpIn_range (f := 86) (fs := #[]) (caps := #[]) (ha.ev (.tmp 5) rfl) (fun l w => by kernel_rfl) (fun fn => ?_))
  have N : Ne5 n1 n2 n3 w3.heap.size (w3.heap.size + 1) := ⟨ne12, ne13, by omega, by omega, ne23, by omega, by omega, by omega, by omega, by omega⟩
  have h4 := h3.newObj (.deferred (some []))
  have h5 := h4.newObj (.loop { state := .ready, pending := none, fn, tmps := a.tmps, params := #[6], assign := asOf b33, body := bdOf b33, defers := w3.heap.size })
  have e5 : (w3.alloc (.deferred (some []))).heap.size = w3.heap.size + 1 := by simp
  rw [e5] at h5
  refine ends_in (iter33 N hk he hne hs hB ht h5 (fun i => agr33 ha _) (fun w' h' => ?_))
  refine ⟨some .ret, _, run_endLoop (h'.obj N.ll) (fun e => LoopState.noConfusion e), wpIn_ret ?_⟩
  have h6 := h'.putObj (o' := .loop (rec33 fn a.tmps w3.heap.size .exhausted (some .ret))) N.ll
  rw [N.setl] at h6
  show LeavesInM (Fr none) 0 P Tryz.f33 a.tmps (EndsS Kp K) ([{ target := .collected w3.heap.size, args := #[] }] ++ a.defers) .returning _
  rw [hds]
  refine leaves_mark ha (h6.obj N.lD) (by kernel_rfl) ?_
  have h7 := h6.putObj (o' := .deferred none) N.lD
  refine RC_rowR rw43 sz43 h7 (by rw [upT_ne N.a2D]; exact N.l2) rfl (RC_cellR pl4 h7 (by rw [upT_ne N.a3D]; exact N.l3) rfl (hK _ h7.toGrow))
end
end Go.Proofs.YtebmnfmiphbgdaaGreatDoor
namespace Go.Proofs.YtebmnfmiphbgdaaGreatDoor
open Go.Sh
section
variable {w w0 : World} {Kp : KP} {K : K0} {B : Nat} {T : Store}
theorem R_b43z : R P (vbuild 43 #[]) (.agg zero43) := ⟨fun w => by kernel_rfl⟩
theorem of_spec {op : Int} (hop : 1 ≤ op ∧ op < 64) (h : Rep B w0 T w) (hB : 4 ≤ B) (ht : Tabs w0) (K1 : ∀ w', Rep B w0 T w' → K (.tuple #[.agg (primCells op), i64 0]) w') : Calls P 14 #[i64 op] w (EndsS Kp K) := by
  refine F14_calls ?_
  unfold F14
  refine S_allocR zr43 h (fun b w1 hb h1 => ?_)
  refine S_R (R_lss _ _ _ _ _ _) ?_
  rw [decide_eq_false (by omega : ¬ op < 1)]
  refine GS_f' (S_R (R_move _) (GS_f' (S_R (R_geq _ _ _ _ _ _) ?_)))
  rw [decide_eq_false (by omega : ¬ op ≥ 64)]
  refine S_R (R_pick_f _ _) (C_f ?_)
  refine S_c52 (primOf_spec ⟨by omega, by omega⟩ h1 hB ht (fun w2 h2 => ?_))
  refine S_storeRowR sz43 h2 (upT_same ..) rfl rfl (fun w3 h3 => ?_)
  refine RC_rowR rw43 sz43 h3 (upT_same ..) rfl ?_
  rw [upT_upT] at h3
  exact K1 w3 (h3.drop1 hb)
theorem of_none {op : Int} (hop : 64 ≤ op) (h : Rep B w0 T w) (K1 : ∀ w', Rep B w0 T w' → K (.tuple #[.agg zero43, i64 60]) w') : Calls P 14 #[i64 op] w (EndsS Kp K) := by
  refine F14_calls ?_
  unfold F14
  refine S_allocR zr43 h (fun b w1 hb h1 => ?_)
  refine S_R (R_lss _ _ _ _ _ _) ?_
  rw [decide_eq_false (by omega : ¬ op < 1)]
  refine GS_f' (S_R (R_move _) (GS_f' (S_R (R_geq _ _ _ _ _ _) ?_)))
  rw [decide_eq_true (by omega : op ≥ 64)]
  refine S_R (R_pick_f _ _) (C_t ?_)
  refine S_R R_b43z ?_
  refine S_storeRowR sz43 h1 (upT_same ..) rfl rfl (fun w3 h3 => ?_)
  refine RC_rowR rw43 sz43 h3 (upT_same ..) rfl ?_
  rw [upT_upT] at h3
  exact K1 w3 (h3.drop1 hb)
theorem R_eql43 (a c d e a' c' d' e' : Int) (b b' : ByteArray) (f f' : Bool) : R P (vbin .eql 43 false false (.agg #[i64 a, .string b, i64 c, i64 d, i64 e, .bool f]) (.agg #[i64 a', .string b', i64 c', i64 d', i64 e', .bool f']))
    (.bool ((a == a') && ((b.toList == b'.toList) && ((c == c') && ((d == d') && ((e == e') && ((f == f') && true))))))) := R_eqlV (by kernel_rfl) (by kernel_rfl)
theorem same_spec {a c d e : Int} {b b' : ByteArray} {f : Bool} (hb : b.toList = b'.toList) (K1 : ∀ w', Grow w w' → K (.bool true) w') : Calls P 34 #[.agg #[i64 a, .string b, i64 c, i64 d, i64 e, .bool f], .agg #[i64 a, .string b', i64 c, i64 d, i64 e, .bool f]] w (EndsS Kp K) := by
  refine F34_calls ?_
  unfold F34
  refine S_boxR (Rep.start w) (fun b1 w1 hb1 h1 => ?_)
  refine S_boxR h1 (fun b2 w2 hb2 h2 => ?_)
  have hne : b1 ≠ b2 := fun e => by rw [e, upT_same] at hb2; cases hb2
  refine S_loadAllR rw43 sz43 h2 (by rw [upT_ne hne, upT_same]) rfl ?_
  refine S_loadAllR rw43 sz43 h2 (by rw [upT_same]) rfl ?_
  refine S_R (R_eql43 _ _ _ _ _ _ _ _ _ _ _ _) ?_
  rw [hb]
  simp only [beq_self_eq_true, Bool.and_true]
  exact K1 _ h2.toGrow
theorem S_lit3 {a b c : Int} (k : ∀ v w', New w w' 41 1 3 ([a, b, c].map u16) v → K v w') : S P (vbuildS 22 3 #[(0, u16 a), (1, u16 b), (2, u16 c)]) w Kp K :=
  S_run (v := sl w.heap.size 0 3 3) (by kernel_rfl) (k _ _ (New.block (xs := [a, b, c].map u16) rfl (by unfold maxLen; omega)))
theorem name24 : (nameB 24).toList = (⟨#[47]⟩ : ByteArray).toList := by rw [ByteArray.toList_eq, ByteArray.toList_eq]; kernel_rfl
theorem name19 : (nameB (19 : Nat)).toList = (⟨#[50, 100, 117, 112]⟩ : ByteArray).toList := by rw [ByteArray.toList_eq, ByteArray.toList_eq]; kernel_rfl
theorem name19n (i : Nat) (h1 : 1 ≤ i) (h2 : i < 19) : (nameB i).toList ≠ (⟨#[50, 100, 117, 112]⟩ : ByteArray).toList := by
  rw [ByteArray.toList_eq, ByteArray.toList_eq]
  have key : ∀ i ∈ List.range 19, (nameB (i : Nat)).data.toList ≠ [50, 100, 117, 112] := by with_unfolding_all decide
  exact key i (by simp; omega)
theorem born_ok {W : WI} {ds : List Int} {cs : List RC2} (N : W.Ne) (hd : ∀ x ∈ ds, isC x) (hc : ∀ c ∈ cs, isC c.2) (h : Rep B w0 (upM W (born ds cs) (born ds cs)) w) : PS.Ok (born ds cs) := by
  obtain ⟨mb, bl, tv, hm, _⟩ := h.mem (upM_m N)
  refine ⟨fun x hx => hd x (List.mem_of_mem_take hx), by show (ds.take 256).length ≤ 256; simp; omega, fun c hc' => ?_, by show ((cs.take 128).map fx).length ≤ 128; simp; omega, ?_⟩
  · obtain ⟨a, ha, rfl⟩ := List.mem_map.1 hc'
    exact hc a (List.mem_of_mem_take ha)
  · exact hm.ok
theorem R_b43x (a : Int) (b : ByteArray) (c d e : Int) : R P (vbuild 43 #[(0, i64 a), (1, .string b), (2, i64 c), (3, i64 d), (4, i64 e)]) (.agg #[i64 a, .string b, i64 c, i64 d, i64 e, .bool false]) := ⟨fun w => by kernel_rfl⟩
theorem cells24 : (primCells 24).extract 0 (0 + 6) = #[i64 24, .string (nameB 24), i64 2, i64 1, i64 4, .bool false] := by kernel_rfl
theorem cells19 : (primCells (19 : Nat)).extract 0 (0 + 6) = #[i64 19, .string (nameB (19 : Nat)), i64 2, i64 4, i64 2, .bool false] := by kernel_rfl
theorem S_loadAllB {t : TypeId} {b n t' : Nat} {cs : Array Value} (hr : rowT P t = true) (hs : sizeT P t = some n) (h : w.heap[b]? = some (.cells cs t' (0, 0))) (ho : cs.size = n) (k : K (.agg cs) w) :
    S P (vload t (ptr b 0)) w Kp K := S_loadRow hr hs h (by omega) (by rw [show cs.extract 0 (0 + n) = cs by rw [← ho]; simp]; exact k)
theorem fixed_do : primFault 16 (born [1, 2, 3] []) = 0 ∧ (primDo 16 (born [1, 2, 3] [])).ds = [2, 3, 1] := by with_unfolding_all decide
theorem fixed_local (hB : 4 ≤ w.heap.size) (ht : Tabs w) (K1 : ∀ w', Grow w w' → K (.bool true) w') : Calls P 7 #[] w (EndsS Kp K) := by
  refine F7_calls ?_
  unfold F7
  refine S_c14 (of_spec ⟨by decide, by decide⟩ (Rep.start w) hB ht (fun w1 h1 => ?_))
  refine S_R (R_ext20 _ _) (S_R (R_ext21 _ _) ?_)
  refine S_allocR zr43 h1 (fun b1 w2 hb1 h2 => ?_)
  refine S_storeRowR sz43 h2 (upT_same ..) rfl rfl (fun w3 h3 => ?_)
  rw [upT_upT] at h3
  refine S_c14 (of_none (by decide) h3 (fun w4 h4 => ?_))
  refine S_R (R_ext20 _ _) (S_R (R_ext21 _ _) ?_)
  refine S_allocR zr43 h4 (fun b2 w5 hb2 h5 => ?_)
  refine S_storeRowR sz43 h5 (upT_same ..) rfl rfl (fun w6 h6 => ?_)
  rw [upT_upT] at h6
  refine S_c33 (named_local (k0 := 19) ⟨by decide, by decide⟩ name19 name19n (by rw [ByteArray.toList_eq]; decide) (Nat.le_trans hB h6.size) (ht.lift hB h6) (fun w7 g7 => ?_))
  refine S_R (R_ext20 _ _) (S_R (R_ext21 _ _) ?_)
  refine S_allocR zr43 (h6.grow g7) (fun b3 w8 hb3 h8 => ?_)
  refine S_storeRowR sz43 h8 (upT_same ..) rfl rfl (fun w9 h9 => ?_)
  rw [upT_upT] at h9
  refine S_lit3 (a := 1) (b := 2) (c := 3) (fun v16 w10 hN10 => ?_)
  have h10 := h9.grow hN10.grow
  have c1 := h10.raw (look_new (look_new (upT_same ..) hb2) hb3)
  have c3 := h10.raw (upT_same ..)
  have t10 := ht.lift hB h10
  have l10 := Nat.le_trans hB h10.size
  refine S_c8 (born_spec (ds := [1, 2, 3]) (cs := []) hN10.sees (Sees.nil _) (by decide) (by decide) (fun W w11 hnd h11 => ?_))
  have N := WI.ne hnd
  have ok := born_ok N (by unfold isC; decide) (by simp) h11
  obtain ⟨hf, hd⟩ := fixed_do
  repeat' (with_reducible first
    | refine C_f ?_
    | (apply S_R; exact R_eqlp26 _ _ _ _))
  have h12 := h11.grow (Grow.drew w11)
  have hk := Wd.cells h12 upM_k
  refine ⟨fun w' => w'.heap[W.k]? = some (.cells #[ptr W.d 0, ptr W.r 0, ptr W.m 0, ptr W.x 0, ptr W.y 0, ptr W.z 0] 39 (0, 0)), hk, ?_⟩
  repeat' (with_reducible first
    | (apply Fl_R; first | exact R_nil _ | exact R_f39_0 _ _ | exact R_f39_1 _ _ | exact R_f39_2 _ _)
    | refine Fl_loadB pl32 (fun w hw => (by first | assumption | exact hw | exact hw.1 | exact hw.2 | exact hw.2.1 | exact hw.2.2)) (by first | assumption | (with_unfolding_all exact rfl)) ?_
    | refine Fl_loadB pl33 (fun w hw => (by first | assumption | exact hw | exact hw.1 | exact hw.2 | exact hw.2.1 | exact hw.2.2)) (by first | assumption | (with_unfolding_all exact rfl)) ?_
    | refine Fl_loadB pl34 (fun w hw => (by first | assumption | exact hw | exact hw.1 | exact hw.2 | exact hw.2.1 | exact hw.2.2)) (by first | assumption | (with_unfolding_all exact rfl)) ?_)
  rw [show upWd W (born [1, 2, 3] []) = upM W (born [1, 2, 3] []) (born [1, 2, 3] []) from rfl, upM_S N] at h12
  refine S_c10 (do_spec N.triP h12 l10 t10 ok (by with_unfolding_all decide) (fun w13 h13 => ?_))
  rw [← upM_S N] at h13
  refine ⟨Wd.cells h13 upM_k, ?_⟩
  rw [hf]
  have hk13 := Wd.cells h13 upM_k
  repeat' (with_reducible first
    | (apply S_R; first | exact R_nil _ | exact R_f39_0 _ _)
    | refine S_loadB pl32 (by first | assumption | exact heap_old (by assumption) (by assumption)) (by first | assumption | (with_unfolding_all exact rfl)) ?_)
  refine S_c17 (cells_spec h13 (upM_d N) (by rw [hd]; decide) (fun v33 T1 w14 hc1 h14 => ?_))
  have x1 := hc1.sees h14 (sz := 1) (by simp)
  rw [hd] at x1
  have hs33 := x1.1
  have k1 := (h14.below.block b1 ((h10.lt (look_new (look_new (upT_same ..) hb2) hb3)).2)).trans c1
  have k3 := (h14.below.block b3 ((h10.lt (upT_same ..)).2)).trans c3
  repeat' (with_reducible first
    | refine GS_t ?_
    | refine S_eql_t (by omega) ?_
    | (apply S_R; first | exact R_move _ | exact R_pick_t _ _)
    | refine S_loadRow rw43 sz43 (by first | assumption | exact heap_old (by assumption) (by assumption)) (by with_unfolding_all decide) ?_)
  refine S_R (R_b43x _ _ _ _ _) ?_
  repeat' (with_reducible refine GS_t ?_)
  rw [cells24]
  refine S_c34 (same_spec name24 (fun w15 g15 => ?_))
  have k3' := (g15.block b3 (Array.getElem?_eq_some_iff.1 k3).1).trans k3
  repeat' (with_reducible first
    | refine GS_t ?_
    | (apply S_R; first | exact R_move _ | exact R_pick_t _ _)
    | refine S_loadRow rw43 sz43 (by first | assumption | exact heap_old (by assumption) (by assumption)) (by with_unfolding_all decide) ?_)
  refine S_R (R_b43x _ _ _ _ _) ?_
  repeat' (with_reducible refine GS_t ?_)
  rw [cells19]
  refine S_c34 (same_spec name19 (fun w16 g16 => ?_))
  repeat' (with_reducible first
    | refine GS_t ?_
    | refine S_eql_t (by omega) ?_
    | (apply S_R; first | exact R_move _ | exact R_pick_t _ _))
  refine S_lit3 (a := 2) (b := 3) (c := 1) (fun v54 w17 hN17 => ?_)
  repeat' (with_reducible refine GS_t ?_)
  have g17 := (g15.trans g16).trans hN17.grow
  refine S_c35 (sameCells_spec (xs := [2, 3, 1]) (ys := [2, 3, 1]) (hs33.grow g17) hN17.sees rfl rfl (by decide) (by decide) (fun w18 g18 => ?_))
  repeat' (with_reducible (apply S_R; exact R_pick_t _ _))
  rw [decide_eq_true rfl]
  refine GS_t (S_c11 (plain_spec ?_))
  rw [decide_eq_true (show plainOp 16 by unfold plainOp; decide)]
  repeat' (with_reducible first
    | refine GS_t ?_
    | (apply S_R; exact R_pick_t _ _))
  refine S_c11 (plain_spec ?_)
  rw [decide_eq_false (show ¬ plainOp 3 by unfold plainOp; decide)]
  repeat' (with_reducible first
    | refine GS_t ?_
    | (apply S_R; first | exact R_pick_t _ _ | exact R_not_f))
  exact K1 _ ((h10.grow ((h14.toGrow.trans g17).trans g18)).toGrow)
end
end Go.Proofs.YtebmnfmiphbgdaaGreatDoor
namespace Go.Proofs.YtebmnfmiphbgdaaGreatDoor
open Go.Sh
section
variable {w w0 : World} {Kp : KP} {K : K0} {B : Nat} {T : Store}
theorem allI_one (l : List Int) : (l.map i64).all (·.oneCell') = true := by simp [Value.oneCell']
theorem S_lit25 {a : Int} (k : ∀ v w', New w w' 3 1 1 ([a].map i64) v → K v w') : S P (vbuildS 25 1 #[(0, i64 a)]) w Kp K :=
  S_run (v := sl w.heap.size 0 1 1) (by kernel_rfl) (k _ _ (New.block (xs := [a].map i64) rfl (by unfold maxLen; omega)))
theorem each_spec {ds : List Int} {cs : List RC2} {op : Int} {v u : Value} (hv : Sees w v ds.length (ds.map u16)) (hu : Sees w u cs.length (enc cs)) (hdl : ds.length ≤ 281474976710656) (hcl : cs.length ≤ 281474976710656)
    (hd : ∀ x ∈ ds, isC x) (hcs : ∀ c ∈ cs, isC c.2) (hB : 4 ≤ w.heap.size) (ht : Tabs w) (K1 : ∀ w', Grow w w' → K (.bool true) w') : Calls P 3 #[v, u, i64 op] w (EndsS Kp K) := by
  refine F3_calls ?_
  unfold F3
  refine S_c7 (fixed_local hB ht (fun w1 g1 => ?_))
  refine S_R (R_not _) (C_f ?_)
  refine S_lit25 (fun v3 w2 hN2 => ?_)
  refine loop_from (fun i (s : Value) => upd 0 v (upd 1 u (upd 2 (i64 op) (upd 6 (.bool false) (upd 7 s (upd 8 (i64 (-1 + (i : Int))) (upd 9 undef (upd 10 undef E0)))))))) 8 .i64 (-1) 67
    (fun i s w' => ∃ l : List Int, l.length = i + 1 ∧ New w w' 3 1 (i + 1) (l.map i64) s) v3 (fun _ _ => rfl) rfl ⟨[op], rfl, (hN2.earlier g1)⟩ ?_
  rintro i s w3 KL hi ⟨l, hl, hN3⟩ next
  try simp (decide := true) only [upd_hit, upd_miss]
  refine S_lss (fun hc => C_t ?_) (fun hc => C_f ?_)
  · refine S_lit25 (fun v4 w4 hN4 => ?_)
    refine S_appN Tryz.underlying25 in3 rfl rfl (by with_unfolding_all decide) (hN3.later hN4.grow) hN4.sees rfl (allI_one _) (by unfold maxLen; omega) (by show (i + 1 + 1) * 8 ≤ _; omega) (fun v5 w5 hN5 _ => ?_)
    refine S_R (R_addi (by omega)) ?_
    rw [show (-1 + (i : Int)) + 1 = -1 + ((i + 1 : Nat) : Int) by push_cast; omega]
    refine next (by omega) v5 w5 ⟨l ++ [-1 + (i : Int)], by simp [hl], ?_⟩
    rw [List.map_append]
    exact hN5
  · have hi' : i = 67 := by omega
    subst hi'
    refine loop_count (fun j (s' : Value) => upd 0 v (upd 1 u (upd 2 (i64 op) (upd 6 (.bool false) (upd 7 s (upd 8 (i64 (-1 + ((67 : Nat) : Int))) (upd 9 (i64 (j : Int)) (upd 10 s' E0)))))))) 9 .i64 68
      (fun j s' w' => Grow w3 w') undef (fun _ _ => rfl) rfl (Grow.refl _) ?_
    rintro j s' w6 KL2 hj g6 next2
    obtain ⟨va, vc, rfl, -⟩ := hN3.sees.size
    try simp (decide := true) only [upd_hit, upd_miss]
    refine S_R (R_lenS Tryz.underlying25) ?_
    refine S_lss (fun hc2 => C_t ?_) (fun hc2 => C_f ?_)
    · have gg := (hN3.grow).trans g6
      refine S_c8 (born_spec (hv.grow gg) (hu.grow gg) hdl hcl (fun W w7 hnd h7 => ?_))
      have N := WI.ne hnd
      have ok := born_ok N hd hcs h7
      obtain ⟨x, hx⟩ : ∃ x, l[j]? = some x := ⟨_, List.getElem?_eq_getElem (by omega)⟩
      have t3 := ht.lift hB ((Rep.start w).grow gg)
      have l6 := Nat.le_trans hB gg.size
      obtain ⟨g, o, c, e, -, hcell⟩ := hN3.sees.at (by intro e; rw [List.map_eq_nil_iff] at e; subst e; simp at hl)
      cases e
      have hx6 := (g6.trans h7.toGrow).cell (hcell j (i64 x) (by rw [List.getElem?_map, hx]; rfl))
      repeat' (with_reducible first
        | refine C_f ?_
        | (apply S_R; first | exact R_eqlp26 _ _ _ _ | exact R_ixA Tryz.underlying25 sz3 (by omega) (by omega)))
      rw [Int.toNat_natCast, Nat.mul_one]
      refine S_loadC pl3 hx6 ?_
      refine S_c9 (does_spec9 (s := born ds cs) N h7 ok (by show (0 : Nat) ≤ _; omega) l6 t3 (fun w8 h8 => ?_))
      refine S_R (R_not _) (C_f (S_R (R_addi (by omega)) ?_))
      rw [show (j : Int) + 1 = ((j + 1 : Nat) : Int) by push_cast; rfl]
      exact next2 (by omega) _ _ (g6.trans h8.toGrow)
    · exact K1 _ (hN3.grow.trans g6)
end
end Go.Proofs.YtebmnfmiphbgdaaGreatDoor
