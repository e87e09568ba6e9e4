/- A part of the proof of a law: texts of this claim, joined by a program of the prover (Card, CTab, CEach). Conditions: those that each law names. -/
import Derived.Test.YtebmnfmiphbgdaaGreatDoorEachF
import Derived.ProofKit
import Derived.OpenShut
import Derived.Deep.DeepHandedRow
import Derived.Deep.Slices
import Derived.Lib.LaidTab
import Derived.Carry
import Derived.Stop.LaidErr
import Derived.Test.YtebmnfmiphbgdaaGreatDoorCards
import Derived.Test.YtebmnfmiphbgdaaGreatDoorTie
set_option linter.unusedVariables false
set_option linter.unusedSimpArgs false
set_option linter.unusedSectionVars false
set_option linter.unnecessarySimpa false
namespace Go.Sh
open Go.ChangeShapes Go.WideShapes Go.ChangeAt Go.RowKit
section
variable {H : Type} {enc : TypeId × Value → H} {P : Program} {W W' : World}
theorem Grow.belows (g : Grow W W') : Below W.heap.size W W' := ⟨g.os, g.tape, g.output, g.size, g.block⟩
theorem Grow.kept (g : Grow W W') (may : MemPlace → Prop) : W.keptBut W' may := by
  refine ⟨g.os, g.output, fun i hi => ?_⟩
  rw [g.block i hi]
  cases W.heap[i]? with
  | none => rfl
  | some o => cases o <;> simp
theorem carryAll (hl : laidOutB P = true) (g : Grow W W') : ∀ (ts : List TypeId) (vs : List Value) (ds : List (DataW H)) (ps : List MemPlace), (∀ t ∈ ts, P.readableRec t = true ∧ t < P.types.size) →
    DataW.TrodAll enc P W 0 (fun _ => true) true ts vs ds ps → (∀ p ∈ ps, p.block < W.heap.size) → DataW.TrodAll enc P W' 0 (fun b => decide (b < W.heap.size)) true ts vs ds ps
  | [], [], [], ps, _, h, _ => h
  | t :: ts, v :: vs, d :: ds, ps, hr, h, hlt => by
    obtain ⟨p, q, h1, h2, rfl⟩ := h
    obtain ⟨hr1, hr2⟩ := hr t (by simp)
    exact ⟨p, q, Below.trod hl hr1 hr2 h1 g.belows (fun x hx => hlt x (List.mem_append_left _ hx)), carryAll hl g ts vs ds q (fun t ht => hr t (by simp [ht])) h2 (fun x hx => hlt x (List.mem_append_right _ hx)), rfl⟩
  | [], [], _ :: _, _, _, h, _ | [], _ :: _, _, _, _, h, _ | _ :: _, [], _, _, _, h, _ | _ :: _, _ :: _, [], _, _, h, _ => by cases h
/-- true, and the arguments read as before -/
theorem law_post {f : Func} {s : ChangeSpec} {args : Array Value} {ds gs : List (DataW H)} {before : List MemPlace} {tb : TypeId} (hl : laidOutB P = true)
    (hp : f.params.toList.all (fun t => P.readableRec t && decide (t < P.types.size)) = true) (hr : f.resultTypes = #[tb]) (hub : P.underlying tb = some .bool) (hv : s.vars = [])
    (hs : s.fn H (ds ++ []) = { results := [.lit (.bool true)], args := ds }) (hW : DataW.Whole enc P f.params.toList s.vars false W args.toList ds gs before) (g : Grow W W') :
    s.post enc P f false true false false W args (.bool true) W' := by
  have hW' := hW
  obtain ⟨p, q, hA, hV, rfl, -, -⟩ := hW
  rw [hv] at hV
  have hgs : gs = [] := by
    cases gs with
    | nil => rfl
    | cons a b => exact hV.elim
  subst hgs
  refine ⟨ds, [], p ++ q, [], p, [], hW', ?_, ?_, ?_, g.kept _, fun h => by cases h⟩
  · rw [hs, hr]
    exact trodAll_mk1 (shut_bool hub true)
  · rw [hs]
    refine carryAll hl g _ _ _ _ (fun t ht => ?_) hA (fun x hx => hA.lt x hx)
    have := List.all_eq_true.1 hp t ht
    simpa using this
  · rw [hs, hv]; rfl
/-! ### the arguments -/
theorem wf_u16 {x : Int} (h : (Lit.int .u16 x).wf = true) : isC x := by
  have h' : (decide (0 ≤ x) && decide (x ≤ 65535)) = true := h
  simp only [Bool.and_eq_true, decide_eq_true_eq] at h'
  exact ⟨h'.1, by omega⟩
theorem sees_u16 {t e : TypeId} {sp : Nat → Bool} {held : Bool} {base : Nat} {r : Reach} {b0 : Nat} {v : Value} {d : DataW H} {ps : List MemPlace} (ht : P.underlying t = some (.slice e)) (he : P.underlying e = some (.int .u16)) (hc : P.cellsOf e = 1) (hval : Value.okWide P W r b0 t v)
    (h : DataW.Trod enc P W base sp held t v d ps) : ∃ xs : List Int, Sees W v xs.length (xs.map u16) ∧ (∀ x ∈ xs, isC x) ∧ ((d = .nil ∧ xs = []) ∨ ∃ l s, d = .slice l s ∧ l.length = xs.length) := by
  obtain ⟨a0, len, cap, rfl⟩ := okWide_slice ht hval
  obtain ⟨fuel, hf⟩ := h
  rcases open_ints ht he hc hf with ⟨hcs, hx⟩ | ⟨a, len', cap', zs, hcs, -, h1, h2, hz, hx, hcell, hwf⟩
  · simp only [Value.cells, List.cons.injEq, and_true, Value.slice.injEq] at hcs
    obtain ⟨rfl, rfl, rfl⟩ := hcs
    exact ⟨[], Sees.nil W, by simp, .inl ⟨(Prod.mk.inj hx).1, rfl⟩⟩
  · simp only [Value.cells, List.cons.injEq, and_true, Value.slice.injEq] at hcs
    obtain ⟨rfl, rfl, rfl⟩ := hcs
    have hle : len ≤ zs.length := by rw [hz]; split <;> omega
    have hlen : (zs.take len).length = len := by rw [List.length_take]; omega
    refine ⟨zs.take len, ?_, fun x hx => ?_, .inr ⟨_, _, (Prod.mk.inj hx).1, by simp [lits]⟩⟩
    · rw [hlen]
      refine ⟨some a, cap, rfl, h1, fun j u hj => ?_⟩
      have hj' : j < len := by have := (List.getElem?_eq_some_iff.1 hj).1; rw [List.length_map, hlen] at this; exact this
      have hcj := hcell j (by omega)
      have hsp := World.cell?_spot (by simpa [Addr.add] using hcell 0 (by omega) : W.cell? a = _)
      obtain ⟨g, o, sp'⟩ := a
      simp only at hsp
      subst hsp
      refine ⟨g, o, rfl, ?_⟩
      rw [Addr.add_mid] at hcj
      rw [hcj, ← hj]
      simp [List.getElem?_take, hj', List.getD, List.getElem?_eq_getElem (show j < zs.length by omega)]
    · have := hwf x (List.mem_of_mem_take hx)
      exact wf_u16 this
theorem wf_int {k : IntKind} {x : Int} (h : (Lit.int k x).wf = true) : k.min ≤ x ∧ x ≤ k.max := by
  simpa [Lit.wf] using h
theorem pairs_at {α : Type} (p q : α → Value) : ∀ (l : List α) (j : Nat), (l.flatMap fun c => [p c, q c])[j]? = (l[j / 2]?).map fun c => if j % 2 = 0 then p c else q c
  | [], j => by simp
  | c :: l, 0 => by simp
  | c :: l, 1 => by simp
  | c :: l, j + 2 => by
    have := pairs_at p q l j
    rw [List.flatMap_cons]
    show (p c :: q c :: l.flatMap fun c => [p c, q c])[j + 2]? = _
    rw [show (j + 2) / 2 = j / 2 + 1 by omega, show (j + 2) % 2 = j % 2 by omega]
    simpa using this
/-- a row of pairs of an int and a uint16 -/
theorem sees_rc {t e : TypeId} {fi fj : Field} {sp : Nat → Bool} {held : Bool} {base : Nat} {r : Reach} {b0 : Nat} {v : Value} {d : DataW H} {ps : List MemPlace} (ht : P.underlying t = some (.slice e)) (he : P.underlying e = some (.struct #[fi, fj]))
    (h1 : P.underlying fi.type = some (.int .i64)) (h2 : P.underlying fj.type = some (.int .u16)) (c1 : P.cellsOf fi.type = 1) (c2 : P.cellsOf fj.type = 1) (o1 : fi.offset = 0) (o2 : fj.offset = 1)
    (hc : P.cellsOf e = 2) (hval : Value.okWide P W r b0 t v) (h : DataW.Trod enc P W base sp held t v d ps) :
    ∃ xs : List (Int × Int), Sees W v xs.length (xs.flatMap fun c => [i64 c.1, u16 c.2]) ∧ (∀ c ∈ xs, isC c.2) ∧ (∀ c ∈ xs, (Lit.int .i64 c.1).wf = true) ∧ ((d = .nil ∧ xs = []) ∨ ∃ l s, d = .slice l s ∧ l.length = xs.length) := by
  obtain ⟨a0, len, cap, rfl⟩ := okWide_slice ht hval
  obtain ⟨fuel, hf⟩ := h
  rcases Deep.open_slice ht hf with ⟨hcs, hx⟩ | ⟨a, len', cap', m, n, D, Pl, hcs, -, hl, hm, hmm, hx, hel⟩
  · simp only [Value.cells, List.cons.injEq, and_true, Value.slice.injEq] at hcs
    obtain ⟨rfl, rfl, rfl⟩ := hcs
    exact ⟨[], Sees.nil W, by simp, by simp, .inl ⟨(Prod.mk.inj hx).1, rfl⟩⟩
  · simp only [Value.cells, List.cons.injEq, and_true, Value.slice.injEq] at hcs
    obtain ⟨rfl, rfl, rfl⟩ := hcs
    have hle : len ≤ m := by rw [hmm]; split <;> omega
    have one : ∀ i, i < len → ∃ c : Int × Int, W.cell? (a.add (i * 2)) = some (i64 c.1) ∧ W.cell? ((a.add (i * 2)).add 1) = some (u16 c.2) ∧ isC c.2 ∧ (Lit.int .i64 c.1).wf = true := fun i hi => by
      obtain ⟨cs', hcs', htr⟩ := hel i (by omega)
      obtain ⟨y0, y1, n', -, hlen, t0, t1⟩ := trod_struct2 he htr
      rw [hc] at hcs' hlen
      obtain ⟨_, _, hall⟩ := World.cells?_some hcs'
      match cs', hlen with
      | [u0, u1], _ =>
        rw [o1, c1] at t0
        rw [o2, c2] at t1
        obtain ⟨z0, e0, -, w0⟩ := DataW.trod_int h1 t0
        obtain ⟨z1, e1, -, w1⟩ := DataW.trod_int h2 t1
        simp at e0 e1
        subst e0; subst e1
        exact ⟨(z0, z1), by simpa [Addr.add] using hall 0 (by omega), by simpa using hall 1 (by omega), wf_u16 w1, w0⟩
    obtain ⟨f, hfa⟩ := Deep.choose_lt one
    have hlen : ((List.range len).map f).length = len := by simp
    refine ⟨(List.range len).map f, ?_, ?_, ?_, .inr ⟨_, _, (Prod.mk.inj hx).1, by simp⟩⟩
    · rw [hlen]
      refine ⟨some a, cap, rfl, hl, fun j u hj => ?_⟩
      rw [pairs_at] at hj
      have hj2 : j / 2 < len := by
        cases hx : ((List.range len).map f)[j / 2]? with
        | none => rw [hx] at hj; cases hj
        | some c => have := (List.getElem?_eq_some_iff.1 hx).1; rwa [hlen] at this
      have hx : ((List.range len).map f)[j / 2]? = some (f (j / 2)) := by simp [hj2]
      rw [hx] at hj
      simp only [Option.map_some, Option.some.injEq] at hj
      have hsp := World.cell?_spot (by simpa [Addr.add] using (hfa 0 (by omega)).1 : W.cell? a = _)
      obtain ⟨g, o, sp'⟩ := a
      simp only at hsp
      subst hsp
      refine ⟨g, o, rfl, ?_⟩
      obtain ⟨k1, k2, -⟩ := hfa (j / 2) hj2
      rw [Deep.add_add, Addr.add_mid] at k2
      rw [Addr.add_mid] at k1
      subst hj
      by_cases h0 : j % 2 = 0
      · rw [if_pos h0, ← k1]; congr 2; omega
      · rw [if_neg h0, ← k2]; congr 2; omega
    · intro c hc'
      obtain ⟨i, hi, rfl⟩ := List.mem_map.1 hc'
      exact (hfa i (List.mem_range.1 hi)).2.2.1
    · intro c hc'
      obtain ⟨i, hi, rfl⟩ := List.mem_map.1 hc'
      exact (hfa i (List.mem_range.1 hi)).2.2.2
/-- what the sizes give -/
theorem len_of_sized {α : Type} {ts : List TypeId} {ds : List (DataW H)} {j : Nat} {t e : TypeId} {d : DataW H} {xs : List α} (h : (DataW.weightsEach P ts ds).all (· ≤ reachBytes) = true) (ht : ts[j]? = some t) (hd : ds[j]? = some d)
    (hu : P.underlying t = some (.slice e)) (hx : (d = .nil ∧ xs = []) ∨ ∃ l s, d = .slice l s ∧ l.length = xs.length) : xs.length * P.bytesOf e ≤ 140737488351232 := by
  rcases hx with ⟨-, rfl⟩ | ⟨l, s, rfl, e⟩
  · simp
  · have := sized_slice h ht hd hu
    rw [← e]
    refine Nat.le_trans (Nat.mul_le_mul_right _ (Nat.le_add_right _ s.length)) (Nat.le_trans this ?_)
    decide
/-! ### the tables -/
theorem laid_at {name : String} {ys : List (DataW Unit)} {rest : List (String × DataW Unit)} {g : Nat} {t e : TypeId} {n : Nat}
    (hg : P.globalNamed name = some g) (hty : (P.globals[g]?).map (·.type) = some t) (ht : P.underlying t = some (.array n e)) (hce : P.cellsOf e = 1) (hct : P.cellsOf t = n)
    (h : laidMet P ((name, .agg ys) :: rest) W) {i : Nat} (hi : i < n) : ∃ c y m p, ys[i]? = some y ∧ W.cell? ⟨g, i, none⟩ = some c ∧ DataW.trod (fun _ => ()) P W 0 (fun _ => true) false m e [c] = some (y, p) := by
  obtain ⟨ps, ⟨g', t', cs, fuel, p, q, hg', ht', hvar, hd, _, _⟩, _⟩ := h
  obtain rfl := Option.some.inj (hg.symm.trans hg')
  obtain rfl := Option.some.inj (hty.symm.trans ht')
  obtain ⟨xs, m, -, hx, hl, hxn, hel⟩ := DataW.trod_array ht hd
  simp only [Prod.mk.injEq, DataW.agg.injEq] at hx
  have h1 := hel i hi
  rw [hce, Nat.mul_one, List.getElem?_eq_getElem (by omega)] at h1
  have hci : i < cs.toList.length := by omega
  rw [List.drop_eq_getElem_cons hci, List.take_succ_cons, List.take_zero] at h1
  refine ⟨cs.toList[i], (xs[i]'(by omega)).1, m, (xs[i]'(by omega)).2, ?_, ?_, h1⟩
  · rw [hx.1, List.getElem?_map, List.getElem?_eq_getElem (by omega)]; rfl
  · rw [World.var?_cell hg hvar i]; simp
theorem laid_int {name : String} {ys : List (DataW Unit)} {rest : List (String × DataW Unit)} {g : Nat} {t e : TypeId} {n : Nat} {k : IntKind} {z : Int}
    (hg : P.globalNamed name = some g) (hty : (P.globals[g]?).map (·.type) = some t) (ht : P.underlying t = some (.array n e)) (he : P.underlying e = some (.int k)) (hce : P.cellsOf e = 1) (hct : P.cellsOf t = n)
    (h : laidMet P ((name, .agg ys) :: rest) W) {i : Nat} (hi : i < n) (hy : ys[i]? = some (.lit (.int k z))) : W.cell? ⟨g, i, none⟩ = some (.int k z) := by
  obtain ⟨c, y, m, p, h1, h2, h3⟩ := laid_at hg hty ht hce hct h hi
  obtain ⟨r, e1, e2, _⟩ := DataW.trod_int he h3
  simp only [List.cons.injEq, and_true] at e1
  simp only [Prod.mk.injEq] at e2
  rw [h1] at hy
  rw [h2, e1]
  have := Option.some.inj hy
  rw [e2.1] at this
  cases this
  rfl
theorem laid_str {name : String} {ys : List (DataW Unit)} {rest : List (String × DataW Unit)} {g : Nat} {t e : TypeId} {n : Nat} {s : List UInt8}
    (hg : P.globalNamed name = some g) (hty : (P.globals[g]?).map (·.type) = some t) (ht : P.underlying t = some (.array n e)) (he : P.underlying e = some .string) (hce : P.cellsOf e = 1) (hct : P.cellsOf t = n)
    (h : laidMet P ((name, .agg ys) :: rest) W) {i : Nat} (hi : i < n) (hy : ys[i]? = some (.lit (.string s))) : W.cell? ⟨g, i, none⟩ = some (.string ⟨s.toArray⟩) := by
  obtain ⟨c, y, m, p, h1, h2, h3⟩ := laid_at hg hty ht hce hct h hi
  obtain ⟨r, e1, e2, _⟩ := DataW.trod_string he h3
  simp only [List.cons.injEq, and_true] at e1
  simp only [Prod.mk.injEq] at e2
  rw [h1] at hy
  rw [h2, e1]
  have := Option.some.inj hy
  rw [e2.1] at this
  simp only [DataW.lit.injEq, Lit.string.injEq] at this
  rw [← this]
end
end Go.Sh
namespace Go.Proofs.YtebmnfmiphbgdaaGreatDoor
open Go.Sh Go.ChangeShapes Go.WideShapes Go.ChangeAt Go.RowKit
theorem own : ownKnob Tryz.prog.godebug = none := by kernel_rfl
theorem laidOut : laidOutB Tryz.prog = true := by kernel_rfl
theorem g0 : Tryz.prog.globalNamed "wisp/prim.names" = some 0 := by kernel_rfl
theorem g1 : Tryz.prog.globalNamed "wisp/prim.takes" = some 1 := by kernel_rfl
theorem g2 : Tryz.prog.globalNamed "wisp/prim.leaves" = some 2 := by kernel_rfl
theorem g3 : Tryz.prog.globalNamed "wisp/prim.costs" = some 3 := by kernel_rfl
theorem t0 : (Tryz.prog.globals[0]?).map (·.type) = some 161 := by kernel_rfl
theorem t1 : (Tryz.prog.globals[1]?).map (·.type) = some 162 := by kernel_rfl
theorem t2 : (Tryz.prog.globals[2]?).map (·.type) = some 162 := by kernel_rfl
theorem t3 : (Tryz.prog.globals[3]?).map (·.type) = some 162 := by kernel_rfl
theorem cells9 : Tryz.prog.cellsOf 9 = 1 := by kernel_rfl
theorem cells5 : Tryz.prog.cellsOf 5 = 1 := by kernel_rfl
theorem cells161 : Tryz.prog.cellsOf 161 = 64 := by kernel_rfl
theorem cells162 : Tryz.prog.cellsOf 162 = 64 := by kernel_rfl
def lay4 : List (String × DataW Unit) := [("wisp/prim.names", Rows.laid_wisp_prim_names), ("wisp/prim.takes", Rows.laid_wisp_prim_takes), ("wisp/prim.leaves", Rows.laid_wisp_prim_leaves), ("wisp/prim.costs", Rows.laid_wisp_prim_costs)]
theorem at_map {α β : Type} (l : List α) (f : α → β) (d : α) (i : Nat) (h : i < l.length) : (l.map f)[i]? = some (f (l.getD i d)) := by
  rw [List.getElem?_map, List.getElem?_eq_getElem h, List.getD_eq_getElem?_getD, List.getElem?_eq_getElem h]; rfl
theorem tabs_of {W : World} (h : laidMetH Tryz.prog lay4 W) : Tabs W ∧ 4 ≤ W.heap.size := by
  have h0 : laidMet Tryz.prog (("wisp/prim.names", .agg (primName.map fun s => .lit (.string s))) :: lay4.tail) W := h
  have h1 : laidMet Tryz.prog (("wisp/prim.takes", .agg (primIn.map fun s => .lit (.int .u8 s))) :: lay4.tail.tail) W := h0.tail
  have h2 : laidMet Tryz.prog (("wisp/prim.leaves", .agg (primOut.map fun s => .lit (.int .u8 s))) :: lay4.tail.tail.tail) W := h1.tail
  have h3 : laidMet Tryz.prog (("wisp/prim.costs", .agg (primCost.map fun s => .lit (.int .u8 s))) :: []) W := h2.tail
  have b : ∀ i : Int, 0 ≤ i ∧ i < 64 → i.toNat < 64 := fun i hi => by omega
  have c3 : ∀ i : Int, 0 ≤ i ∧ i < 64 → W.cell? ⟨3, i.toNat, none⟩ = some (u8 (costOf i)) := fun i hi =>
    laid_int g3 t3 Tryz.underlying162 Tryz.underlying5 cells5 cells162 h3 (b i hi) (at_map primCost _ 0 _ (b i hi))
  refine ⟨⟨fun i hi => laid_str g0 t0 Tryz.underlying161 Tryz.underlying9 cells9 cells161 h0 (b i hi) (at_map primName _ [] _ (b i hi)),
    fun i hi => laid_int g1 t1 Tryz.underlying162 Tryz.underlying5 cells5 cells162 h1 (b i hi) (at_map primIn _ 0 _ (b i hi)),
    fun i hi => laid_int g2 t2 Tryz.underlying162 Tryz.underlying5 cells5 cells162 h2 (b i hi) (at_map primOut _ 0 _ (b i hi)), c3⟩, ?_⟩
  have hc := c3 0 ⟨by decide, by decide⟩
  unfold World.cell? at hc
  by_cases hs : 3 < W.heap.size
  · exact hs
  · rw [Array.getElem?_eq_none (show W.heap.size ≤ 3 by omega)] at hc
    cases hc
/-- A WORLD FOR THE WITNESS -/
noncomputable def laidWorld (os : Os) : World :=
  let put (cs : List Value) (o : Obj) : Obj := match o with | .cells _ t fr => .cells cs.toArray t fr | o => o
  let w := World.holding Tryz.prog os ⟨#[], #[], []⟩
  { w with heap := (((w.heap.modify 0 (put (primName.map fun s => .string ⟨s.toArray⟩))).modify 1 (put (primIn.map u8))).modify 2 (put (primOut.map u8))).modify 3 (put (primCost.map u8)) }
theorem laid_met (os : Os) (args : Array Value) : laidMet Tryz.prog lay4 ((laidWorld os).forCall (fun _ _ => 0) ⟨#[], args, []⟩).memory :=
  laidMet_of_run' 8 (by kernel_rfl) (by kernel_rfl)
theorem enc_eq (cs : List RC2) : (cs.flatMap fun c => [i64 c.1, u16 c.2]) = enc cs := by
  induction cs with
  | nil => rfl
  | cons c cs ih => rw [List.flatMap_cons, ih]; rfl
end Go.Proofs.YtebmnfmiphbgdaaGreatDoor
namespace Go.Proofs.YtebmnfmiphbgdaaGreatDoor.each
open Go.Sh Go.ChangeShapes Go.WideShapes Go.ChangeAt Go.RowKit
set_option maxRecDepth 100000 in
/-- the walk, as the row wants it -/
theorem contract (H : Type) (enc : TypeId × Value → H) (W : World) (base : Nat) (args : Array Value) (ds gs : List (DataW H)) (before : List MemPlace)
    (hval : ∀ (j : Nat) t v, Tryz.f3.params[j]? = some t → args[j]? = some v → Value.okWide Tryz.prog W .any base t v)
    (hW : DataW.Whole enc Tryz.prog Tryz.f3.params.toList Rows.primEachSpec.vars false W args.toList ds gs before) (hz : (DataW.weightsEach Tryz.prog (Tryz.f3.params.toList ++ (OpenSpec.ofChange Rows.primEachSpec).bare.plain.varTypes Tryz.prog) (ds ++ gs)).all (· ≤ reachBytes) = true) (hL : laidMetH Tryz.prog Rows.primEachRow.laid W) :
    Calls Tryz.prog 3 args W fun e W' => ∃ v, e = .returned v ∧ Rows.primEachSpec.post enc Tryz.prog Tryz.f3 false true false false W args v W' := by
  have hW' := hW
  obtain ⟨p, q, hA0, hV, -, -, -⟩ := hW
  have hA : DataW.TrodAll enc Tryz.prog W 0 (fun _ => true) true Tryz.f3.params.toList args.toList ds p := hA0
  rw [Tryz.params3] at hA hval hz
  obtain ⟨v0, v1, v2, d0, d1, d2, p0, p1, p2, rfl, rfl, -, h0, h1, h2⟩ := trodAll_three hA
  obtain ⟨xs, hx, hxc, hxl⟩ := sees_u16 Tryz.underlying22 Tryz.underlying41 (by kernel_rfl) (hval 0 22 v0 rfl rfl) h0
  obtain ⟨cs, hc, hcc, -, hcl⟩ := sees_rc Tryz.underlying23 Tryz.underlying75 Tryz.underlying3 Tryz.underlying41 (by kernel_rfl) (by kernel_rfl) rfl rfl (by kernel_rfl) (hval 1 23 v1 rfl rfl) h1
  rw [enc_eq] at hc
  obtain ⟨n, rfl, -, -, -⟩ := open_int Tryz.underlying3 (hval 2 3 v2 rfl rfl) h2
  obtain ⟨ht, hB⟩ := tabs_of hL
  have b0 := len_of_sized hz (j := 0) rfl rfl Tryz.underlying22 hxl
  have b1 := len_of_sized hz (j := 1) rfl rfl Tryz.underlying23 hcl
  rw [show Tryz.prog.bytesOf 41 = 2 by kernel_rfl] at b0
  rw [show Tryz.prog.bytesOf 75 = 16 by kernel_rfl] at b1
  refine (each_spec (Kp := fun _ _ => False) (K := fun v W' => v = .bool true ∧ Grow W W') hx hc (by omega) (by omega) hxc hcc hB ht (fun w' g => ⟨rfl, g⟩)).mono fun e W' he => ?_
  cases e with
  | returned v =>
    obtain ⟨rfl, g⟩ := he
    exact ⟨_, rfl, law_post laidOut (by kernel_rfl) (by kernel_rfl) Tryz.underlying4 rfl rfl hW' g⟩
  | panicked ch => exact he.elim
  | outgrown => exact he.elim
def zeros : Array Value := #[.slice none 0 0, .slice none 0 0, .int .i64 0]
theorem reads (os : Os) {H : Type} (enc : TypeId × Value → H) : ∃ x places, DataW.whole enc Tryz.prog ((laidWorld os).forCall (fun _ _ => 0) ⟨#[], zeros, []⟩).memory Tryz.f3.params.toList Rows.primEachSpec.vars false zeros.toList 8 = some (x, [], places) :=
  ⟨[.nil, .nil, .lit (.int .i64 0)], [], by kernel_rfl⟩
set_option maxRecDepth 100000 in
theorem lifted (os : Os) (started : os.Started) (H : Type) (enc : TypeId × Value → H) (F : Stop.Interp) :
    ReturnsInHanded {} Tryz.checked os 3 .any ((OpenSpec.ofChange Rows.primEachSpec).preRow enc Tryz.prog Tryz.f3 Rows.primEachRow.domain false Rows.primEachRow.laid) (((OpenSpec.ofChange Rows.primEachSpec).at F).post enc Tryz.prog Tryz.f3 false true false false) := by
  obtain ⟨x, places, hx⟩ := reads os enc
  refine returnsInHanded_of_row (C := Tryz.checked) (s := OpenSpec.ofChange Rows.primEachSpec) own started (by kernel_rfl) Tryz.func3
    (witness_row_at (enc := enc) (C := Tryz.checked) false (laidWorld os) zeros rfl (by kernel_rfl) (by kernel_rfl) (by kernel_rfl)
      (OpenSpec.preRow_of_cond 8 hx (by kernel_rfl) (fun k hk => by cases hk) (by kernel_rfl) (laid_met os _))) ?_
  intro W base args ds gs before hval hW _ _ hz hL _ _
  exact contract H enc W base args ds gs before hval hW hz hL
theorem said : Rows.PrimEachSaid :=
  OpenClaim.holds_of_cond 3 Tryz.f3 rfl rfl rfl rfl rfl rfl rfl ⟨rfl, rfl, rfl, rfl, rfl⟩ rfl rfl rfl rfl rfl (by kernel_rfl) Tryz.func3 (by kernel_rfl)
    (of_decide_eq_true (by kernel_rfl)) (by unfold Func.isWrapper; first | (rw [if_pos (by decide +kernel)]; kernel_rfl) | (rw [if_neg (by decide +kernel)]; exact ⟨rfl, rfl⟩))
    (fun os started H enc _ F => by rw [OpenClaim.pre_eq_preRow]; exact lifted os started H enc F)
theorem plain (f : FuncId) (fn : Func) (hf : Tryz.pinned.checked.prog.funcNamed "wisp/wisplaw06.PrimEach" = some f) (hfn : Tryz.pinned.checked.prog.funcs[f]? = some fn) :
    false = Tryz.pinned.checked.prog.looks [] ∧ ∀ (j : Nat) t, fn.params[j]? = some t → Tryz.pinned.checked.prog.wantsStandIn t = false := by
  obtain rfl : f = 3 := Option.some.inj ((show Tryz.prog.funcNamed "wisp/wisplaw06.PrimEach" = some 3 by kernel_rfl).symm.trans hf) |>.symm
  obtain rfl : fn = Tryz.f3 := (Option.some.inj (Tryz.func3.symm.trans hfn)).symm
  refine ⟨by kernel_rfl, fun j t ht => ?_⟩
  rw [Tryz.params3] at ht
  have hm : t ∈ [22, 23, 3] := by simpa using Array.mem_of_getElem? ht
  have hall : ([22, 23, 3].all fun u => !Tryz.prog.wantsStandIn u) = true := by kernel_rfl
  exact (show Tryz.prog.wantsStandIn t = false by simpa using List.all_eq_true.1 hall t hm)
theorem card : Rows.PrimEachCardSaid :=
  Claim7.holds_tied_plain_at .later [] _ _ _ _ said (fun _ h => by cases h) (by kernel_rfl) (fun _ h => by cases h) primEach_row_tie rfl ⟨rfl, rfl⟩ (by kernel_rfl) rfl plain (by kernel_rfl)
end Go.Proofs.YtebmnfmiphbgdaaGreatDoor.each
namespace Go.Proofs.YtebmnfmiphbgdaaGreatDoor
theorem primEach_card : Rows.PrimEachCardSaid := each.card
end Go.Proofs.YtebmnfmiphbgdaaGreatDoor
