/- A part of the proof of a law: texts of this claim, joined by a program of the prover (Fb, St, St2, St3, Mem1, Mem2, Mem3, Ref1, Ref2, Ref3). Conditions: those that each law names. -/
import Derived.Test.YtebmnfmiphbgdaaGreatDoorEachB
set_option linter.unusedVariables false
set_option linter.unusedSimpArgs false
set_option linter.unusedSectionVars false
set_option linter.unnecessarySimpa false
namespace Go.Proofs.YtebmnfmiphbgdaaGreatDoor
open Go.Sh
set_option maxRecDepth 100000
/-- wisp/prim.Plain -/
def F11 (x0 : Value) (w : World) (Kp : KP) (K : K0) : Prop :=
  S P (vbin .eql 3 false true x0 (Value.int IntKind.i64 9)) w Kp fun v1 w =>
  GS v1 false P (vmove x0) w Kp fun v2 w =>
  GS v1 false P (vbin .eql 3 false true v2 (Value.int IntKind.i64 6)) w Kp fun v3 w =>
  S P (vpick v1 (Value.bool true) v3) w Kp fun v4 w =>
  GS v4 false P (vmove x0) w Kp fun v5 w =>
  GS v4 false P (vbin .geq 3 false true v5 (Value.int IntKind.i64 12)) w Kp fun v6 w =>
  GS v4 false P (vmove v6) w Kp fun v7 w =>
  GS v7 true P (vmove x0) w Kp fun v8 w =>
  GS v7 true P (vbin .lss 3 false true v8 (Value.int IntKind.i64 64)) w Kp fun v9 w =>
  GS v4 false P (vpick v7 v9 (Value.bool false)) w Kp fun v10 w =>
  S P (vpick v4 (Value.bool true) v10) w Kp fun v11 w =>
  K v11 w
theorem F11_eq (x0 : Value) (w : World) (Kp : KP) (K : K0) : F11 x0 w Kp K = wpE P [2] (bodyOf Tryz.f11) (postE P Tryz.f11.results.toList Kp K) (List.range 1 ++ [2]) (ε0 #[x0]) w := by kernel_rfl
theorem F11_calls {x0 : Value} {w : World} {Kp : KP} {K : K0} (h : F11 x0 w Kp K) : Calls P 11 #[x0] w (EndsS Kp K) :=
  calls_of follows [2] Tryz.func11 (by kernel_rfl) (by kernel_rfl) (by kernel_rfl) (F11_eq x0 w Kp K ▸ h)

/-- wisp/prim.looks -/
def F43 (x0 x1 : Value) (w : World) (Kp : KP) (K : K0) : Prop :=
  J (fun ε1 w => K (ε1 5) w) fun k2 =>
  J (fun ε3 w => C (ε3 7) (S P (vcall (Value.func (Fn.func 75) #[] #[]) #[(ε3 1), (Value.int IntKind.i64 0), (Value.int IntKind.i64 4)]) w Kp fun v5 w =>
  S P (vext v5 0) w Kp fun v6 w =>
  S P (vext v5 1) w Kp fun v7 w =>
  k2 (upd 1 (ε3 1) (upd 4 (ε3 4) (upd 5 v7 (upd 6 (ε3 6) (upd 7 (ε3 7) E0))))) w)
  (S P (vbin .eql 3 false true (ε3 6) (Value.int IntKind.i64 58)) w Kp fun v8 w =>
  C v8 (S P (vcall (Value.func (Fn.func 75) #[] #[]) #[(ε3 1), (Value.int IntKind.i64 0), (Value.int IntKind.i64 3)]) w Kp fun v9 w =>
  S P (vext v9 0) w Kp fun v10 w =>
  S P (vext v9 1) w Kp fun v11 w =>
  k2 (upd 1 (ε3 1) (upd 4 (ε3 4) (upd 5 v11 (upd 6 (ε3 6) (upd 7 (ε3 7) E0))))) w)
  (S P (vbin .eql 3 false true (ε3 6) (Value.int IntKind.i64 59)) w Kp fun v12 w =>
  C v12 (S P (vcall (Value.func (Fn.func 75) #[] #[]) #[(ε3 1), (Value.int IntKind.i64 2), (Value.int IntKind.i64 3)]) w Kp fun v13 w =>
  S P (vext v13 0) w Kp fun v14 w =>
  S P (vext v13 1) w Kp fun v15 w =>
  k2 (upd 1 (ε3 1) (upd 4 (ε3 4) (upd 5 v15 (upd 6 (ε3 6) (upd 7 (ε3 7) E0))))) w)
  (k2 (upd 1 (ε3 1) (upd 4 (ε3 4) (upd 5 (ε3 5) (upd 6 (ε3 6) (upd 7 (ε3 7) E0))))) w)))) fun k4 =>
  S P (vbin .eql 3 false true x0 (Value.int IntKind.i64 56)) w Kp fun v16 w =>
  C v16 (k4 (upd 1 x1 (upd 4 (Value.int IntKind.i64 0) (upd 5 (Value.int IntKind.i64 0) (upd 6 x0 (upd 7 v16 E0))))) w)
  (S P (vbin .eql 3 false true x0 (Value.int IntKind.i64 57)) w Kp fun v17 w =>
  k4 (upd 1 x1 (upd 4 (Value.int IntKind.i64 0) (upd 5 (Value.int IntKind.i64 0) (upd 6 x0 (upd 7 v17 E0))))) w)
theorem F43_eq (x0 x1 : Value) (w : World) (Kp : KP) (K : K0) : F43 x0 x1 w Kp K = wpE P [1, 4, 5, 6, 7] (bodyOf Tryz.f43) (postE P Tryz.f43.results.toList Kp K) (List.range 2 ++ [1, 4, 5, 6, 7]) (ε0 #[x0, x1]) w := by kernel_rfl
theorem F43_calls {x0 x1 : Value} {w : World} {Kp : KP} {K : K0} (h : F43 x0 x1 w Kp K) : Calls P 43 #[x0, x1] w (EndsS Kp K) :=
  calls_of follows [1, 4, 5, 6, 7] Tryz.func43 (by kernel_rfl) (by kernel_rfl) (by kernel_rfl) (F43_eq x0 x1 w Kp K ▸ h)

/-- wisp/prim.adds -/
def F45 (x0 : Value) (w : World) (Kp : KP) (K : K0) : Prop :=
  S P (vbin .eql 3 false true x0 (Value.int IntKind.i64 55)) w Kp fun v1 w =>
  C v1 (K (Value.int IntKind.i64 1) w)
  (S P (vbin .eql 3 false true x0 (Value.int IntKind.i64 6)) w Kp fun v2 w =>
  C v2 (K (Value.int IntKind.i64 2) w)
  (K (Value.int IntKind.i64 0) w))
theorem F45_eq (x0 : Value) (w : World) (Kp : KP) (K : K0) : F45 x0 w Kp K = wpE P [2] (bodyOf Tryz.f45) (postE P Tryz.f45.results.toList Kp K) (List.range 1 ++ [2]) (ε0 #[x0]) w := by kernel_rfl
theorem F45_calls {x0 : Value} {w : World} {Kp : KP} {K : K0} (h : F45 x0 w Kp K) : Calls P 45 #[x0] w (EndsS Kp K) :=
  calls_of follows [2] Tryz.func45 (by kernel_rfl) (by kernel_rfl) (by kernel_rfl) (F45_eq x0 w Kp K ▸ h)

/-- wisp/prim.Do -/
def F10 (x0 x1 x2 x3 : Value) (w : World) (Kp : KP) (K : K0) : Prop :=
  S P (vcall (Value.func (Fn.func 11) #[] #[]) #[x0]) w Kp fun v1 w =>
  S P (vun .not v1) w Kp fun v2 w =>
  GS v2 false P (vmove x1) w Kp fun v3 w =>
  GS v2 false P (vbin .eql 32 false true v3 (Value.pointer none)) w Kp fun v4 w =>
  S P (vpick v2 (Value.bool true) v4) w Kp fun v5 w =>
  GS v5 false P (vmove x2) w Kp fun v6 w =>
  GS v5 false P (vbin .eql 33 false true v6 (Value.pointer none)) w Kp fun v7 w =>
  S P (vpick v5 (Value.bool true) v7) w Kp fun v8 w =>
  GS v8 false P (vmove x3) w Kp fun v9 w =>
  GS v8 false P (vbin .eql 34 false true v9 (Value.pointer none)) w Kp fun v10 w =>
  S P (vpick v8 (Value.bool true) v10) w Kp fun v11 w =>
  C v11 (K (Value.int IntKind.i64 6) w)
  (S P (vcall (Value.func (Fn.func 41) #[] #[]) #[x0]) w Kp fun v12 w =>
  S P (valloc 92) w Kp fun v13 w =>
  S P (vstore 92 v13 v12) w Kp fun v14 w =>
  S P (vfield 92 v13 0) w Kp fun v15 w =>
  S P (vfield 43 v15 2) w Kp fun v16 w =>
  S P (vload 3 v16) w Kp fun v17 w =>
  S P (vfield 92 v13 0) w Kp fun v18 w =>
  S P (vfield 43 v18 3) w Kp fun v19 w =>
  S P (vload 3 v19) w Kp fun v20 w =>
  S P (vcall (Value.func (Fn.func 42) #[] #[]) #[x1, v17, v20]) w Kp fun v21 w =>
  S P (vbin .neq 30 false true v21 (Value.int IntKind.i64 0)) w Kp fun v22 w =>
  C v22 (K v21 w)
  (S P (vcall (Value.func (Fn.func 43) #[] #[]) #[x0, x2]) w Kp fun v23 w =>
  S P (vbin .neq 30 false true v23 (Value.int IntKind.i64 0)) w Kp fun v24 w =>
  C v24 (K v23 w)
  (S P (vcall (Value.func (Fn.func 44) #[] #[]) #[x2]) w Kp fun v25 w =>
  S P (vcall (Value.func (Fn.func 45) #[] #[]) #[x0]) w Kp fun v26 w =>
  S P (vbin .add 3 false false v25 v26) w Kp fun v27 w =>
  S P (vbin .gtr 3 false true v27 (Value.int IntKind.i64 128)) w Kp fun v28 w =>
  C v28 (K (Value.int IntKind.i64 4) w)
  (S P (vfield 92 v13 1) w Kp fun v29 w =>
  S P (vload 90 v29) w Kp fun v30 w =>
  S P (vbuild 99 #[(0, x1), (1, x2), (2, x3)]) w Kp fun v31 w =>
  S P (vbox 99 v31) w Kp fun v32 w =>
  S P (vcall v30 #[v32]) w Kp fun v33 w =>
  K (Value.int IntKind.i64 0) w))))
theorem F10_eq (x0 x1 x2 x3 : Value) (w : World) (Kp : KP) (K : K0) : F10 x0 x1 x2 x3 w Kp K = wpE P [0, 1, 2, 3, 8, 9] (bodyOf Tryz.f10) (postE P Tryz.f10.results.toList Kp K) (List.range 4 ++ [0, 1, 2, 3, 8, 9]) (ε0 #[x0, x1, x2, x3]) w := by kernel_rfl
theorem F10_calls {x0 x1 x2 x3 : Value} {w : World} {Kp : KP} {K : K0} (h : F10 x0 x1 x2 x3 w Kp K) : Calls P 10 #[x0, x1, x2, x3] w (EndsS Kp K) :=
  calls_of follows [0, 1, 2, 3, 8, 9] Tryz.func10 (by kernel_rfl) (by kernel_rfl) (by kernel_rfl) (F10_eq x0 x1 x2 x3 w Kp K ▸ h)

/-- wisp/prim.primOf -/
def F52 (x0 : Value) (w : World) (Kp : KP) (K : K0) : Prop :=
  S P (valloc 43) w Kp fun v1 w =>
  S P (vbin .eql 3 false true x0 (Value.int IntKind.i64 3)) w Kp fun v2 w =>
  GS v2 false P (vmove x0) w Kp fun v3 w =>
  GS v2 false P (vbin .eql 3 false true v3 (Value.int IntKind.i64 4)) w Kp fun v4 w =>
  S P (vpick v2 (Value.bool true) v4) w Kp fun v5 w =>
  GS v5 false P (vmove x0) w Kp fun v6 w =>
  GS v5 false P (vbin .eql 3 false true v6 (Value.int IntKind.i64 5)) w Kp fun v7 w =>
  S P (vpick v5 (Value.bool true) v7) w Kp fun v8 w =>
  GS v8 false P (vmove x0) w Kp fun v9 w =>
  GS v8 false P (vbin .eql 3 false true v9 (Value.int IntKind.i64 7)) w Kp fun v10 w =>
  S P (vpick v8 (Value.bool true) v10) w Kp fun v11 w =>
  ∃ H12 : World → Prop, H12 (drewW w) ∧
  Fl P H12 (vixA 161 (Value.pointer (some ⟨0, 0, none⟩)) x0) fun v13 =>
  Fl P H12 (vload 9 v13) fun v14 =>
  Fl P H12 (vixA 162 (Value.pointer (some ⟨1, 0, none⟩)) x0) fun v15 =>
  Fl P H12 (vload 5 v15) fun v16 =>
  Fl P H12 (vconv 5 3 v16) fun v17 =>
  Fl P H12 (vixA 162 (Value.pointer (some ⟨2, 0, none⟩)) x0) fun v18 =>
  Fl P H12 (vload 5 v18) fun v19 =>
  Fl P H12 (vconv 5 3 v19) fun v20 =>
  Fl P H12 (vixA 162 (Value.pointer (some ⟨3, 0, none⟩)) x0) fun v21 =>
  Fl P H12 (vload 5 v21) fun v22 =>
  Fl P H12 (vconv 5 3 v22) fun v23 =>
  Fl P H12 (vbuild 43 #[(0, x0), (1, v14), (2, v17), (3, v20), (4, v23), (5, v11)]) fun v24 =>
  S P (vstore 43 v1 v24) (drewW w) Kp fun v25 w =>
  RC P 43 v1 w fun r26 => K r26 w
theorem F52_eq (x0 : Value) (w : World) (Kp : KP) (K : K0) : F52 x0 w Kp K = wpE P [2] (bodyOf Tryz.f52) (postE P Tryz.f52.results.toList Kp K) (List.range 1 ++ [2]) (ε0 #[x0]) w := by kernel_rfl
theorem F52_calls {x0 : Value} {w : World} {Kp : KP} {K : K0} (h : F52 x0 w Kp K) : Calls P 52 #[x0] w (EndsS Kp K) :=
  calls_of follows [2] Tryz.func52 (by kernel_rfl) (by kernel_rfl) (by kernel_rfl) (F52_eq x0 w Kp K ▸ h)

/-- wisp/prim.entryOf -/
def F41 (x0 : Value) (w : World) (Kp : KP) (K : K0) : Prop :=
  S P (valloc 92) w Kp fun v1 w =>
  S P (vcall (Value.func (Fn.func 52) #[] #[]) #[x0]) w Kp fun v2 w =>
  S P (vcall (Value.func (Fn.func 73) #[] #[]) #[x0]) w Kp fun v3 w =>
  S P (vbuild 92 #[(0, v2), (1, v3)]) w Kp fun v4 w =>
  S P (vstore 92 v1 v4) w Kp fun v5 w =>
  RC P 92 v1 w fun r6 => K r6 w
theorem F41_eq (x0 : Value) (w : World) (Kp : KP) (K : K0) : F41 x0 w Kp K = wpE P [2] (bodyOf Tryz.f41) (postE P Tryz.f41.results.toList Kp K) (List.range 1 ++ [2]) (ε0 #[x0]) w := by kernel_rfl
theorem F41_calls {x0 : Value} {w : World} {Kp : KP} {K : K0} (h : F41 x0 w Kp K) : Calls P 41 #[x0] w (EndsS Kp K) :=
  calls_of follows [2] Tryz.func41 (by kernel_rfl) (by kernel_rfl) (by kernel_rfl) (F41_eq x0 w Kp K ▸ h)

/-- wisp/prim.does -/
def F73 (x0 : Value) (w : World) (Kp : KP) (K : K0) : Prop :=
  S P (vcall (Value.func (Fn.func 106) #[] #[]) #[x0, (Value.int IntKind.u16 0)]) w Kp fun v1 w =>
  S P (vext v1 0) w Kp fun v2 w =>
  S P (vext v1 1) w Kp fun v3 w =>
  C v3 (S P (vcall (Value.func (Fn.func 107) #[] #[]) #[x0]) w Kp fun v4 w =>
  K v4 w)
  (S P (vcall (Value.func (Fn.func 108) #[] #[]) #[x0, (Value.int IntKind.u16 0), (Value.int IntKind.u16 0)]) w Kp fun v5 w =>
  S P (vext v5 0) w Kp fun v6 w =>
  S P (vext v5 1) w Kp fun v7 w =>
  C v7 (S P (vcall (Value.func (Fn.func 109) #[] #[]) #[x0]) w Kp fun v8 w =>
  K v8 w)
  (S P (vbin .eql 3 false true x0 (Value.int IntKind.i64 9)) w Kp fun v9 w =>
  C v9 (K (Value.func (Fn.func 110) #[] #[]) w)
  (S P (vbin .eql 3 false true x0 (Value.int IntKind.i64 12)) w Kp fun v10 w =>
  C v10 (S P (vbuildS 25 2 #[(0, (Value.int IntKind.i64 0)), (1, (Value.int IntKind.i64 0))]) w Kp fun v11 w =>
  S P (vcall (Value.func (Fn.func 111) #[] #[]) #[(Value.int IntKind.i64 1), v11]) w Kp fun v12 w =>
  K v12 w)
  (S P (vbin .eql 3 false true x0 (Value.int IntKind.i64 13)) w Kp fun v13 w =>
  C v13 (S P (vcall (Value.func (Fn.func 111) #[] #[]) #[(Value.int IntKind.i64 1), (Value.slice none 0 0)]) w Kp fun v14 w =>
  K v14 w)
  (S P (vbin .eql 3 false true x0 (Value.int IntKind.i64 14)) w Kp fun v15 w =>
  C v15 (S P (vbuildS 25 2 #[(0, (Value.int IntKind.i64 1)), (1, (Value.int IntKind.i64 0))]) w Kp fun v16 w =>
  S P (vcall (Value.func (Fn.func 111) #[] #[]) #[(Value.int IntKind.i64 2), v16]) w Kp fun v17 w =>
  K v17 w)
  (S P (vbin .eql 3 false true x0 (Value.int IntKind.i64 15)) w Kp fun v18 w =>
  C v18 (S P (vbuildS 25 3 #[(0, (Value.int IntKind.i64 0)), (1, (Value.int IntKind.i64 1)), (2, (Value.int IntKind.i64 0))]) w Kp fun v19 w =>
  S P (vcall (Value.func (Fn.func 111) #[] #[]) #[(Value.int IntKind.i64 2), v19]) w Kp fun v20 w =>
  K v20 w)
  (S P (vbin .eql 3 false true x0 (Value.int IntKind.i64 16)) w Kp fun v21 w =>
  C v21 (S P (vbuildS 25 3 #[(0, (Value.int IntKind.i64 1)), (1, (Value.int IntKind.i64 2)), (2, (Value.int IntKind.i64 0))]) w Kp fun v22 w =>
  S P (vcall (Value.func (Fn.func 111) #[] #[]) #[(Value.int IntKind.i64 3), v22]) w Kp fun v23 w =>
  K v23 w)
  (S P (vbin .eql 3 false true x0 (Value.int IntKind.i64 17)) w Kp fun v24 w =>
  C v24 (S P (vbuildS 25 1 #[(0, (Value.int IntKind.i64 1))]) w Kp fun v25 w =>
  S P (vcall (Value.func (Fn.func 111) #[] #[]) #[(Value.int IntKind.i64 2), v25]) w Kp fun v26 w =>
  K v26 w)
  (S P (vbin .eql 3 false true x0 (Value.int IntKind.i64 18)) w Kp fun v27 w =>
  C v27 (S P (vbuildS 25 3 #[(0, (Value.int IntKind.i64 1)), (1, (Value.int IntKind.i64 0)), (2, (Value.int IntKind.i64 1))]) w Kp fun v28 w =>
  S P (vcall (Value.func (Fn.func 111) #[] #[]) #[(Value.int IntKind.i64 2), v28]) w Kp fun v29 w =>
  K v29 w)
  (S P (vbin .eql 3 false true x0 (Value.int IntKind.i64 19)) w Kp fun v30 w =>
  C v30 (S P (vbuildS 25 4 #[(0, (Value.int IntKind.i64 0)), (1, (Value.int IntKind.i64 1)), (2, (Value.int IntKind.i64 0)), (3, (Value.int IntKind.i64 1))]) w Kp fun v31 w =>
  S P (vcall (Value.func (Fn.func 111) #[] #[]) #[(Value.int IntKind.i64 2), v31]) w Kp fun v32 w =>
  K v32 w)
  (S P (vbin .eql 3 false true x0 (Value.int IntKind.i64 20)) w Kp fun v33 w =>
  C v33 (S P (vcall (Value.func (Fn.func 111) #[] #[]) #[(Value.int IntKind.i64 2), (Value.slice none 0 0)]) w Kp fun v34 w =>
  K v34 w)
  (S P (vcall (Value.func (Fn.func 112) #[] #[]) #[x0]) w Kp fun v35 w =>
  K v35 w))))))))))))
theorem F73_eq (x0 : Value) (w : World) (Kp : KP) (K : K0) : F73 x0 w Kp K = wpE P [0, 2] (bodyOf Tryz.f73) (postE P Tryz.f73.results.toList Kp K) (List.range 1 ++ [0, 2]) (ε0 #[x0]) w := by kernel_rfl
theorem F73_calls {x0 : Value} {w : World} {Kp : KP} {K : K0} (h : F73 x0 w Kp K) : Calls P 73 #[x0] w (EndsS Kp K) :=
  calls_of follows [0, 2] Tryz.func73 (by kernel_rfl) (by kernel_rfl) (by kernel_rfl) (F73_eq x0 w Kp K ▸ h)

/-- wisp/prim.doesOf -/
def F112 (x0 : Value) (w : World) (Kp : KP) (K : K0) : Prop :=
  S P (vbin .eql 3 false true x0 (Value.int IntKind.i64 6)) w Kp fun v1 w =>
  C v1 (K (Value.func (Fn.func 129) #[] #[]) w)
  (S P (vbin .eql 3 false true x0 (Value.int IntKind.i64 50)) w Kp fun v2 w =>
  C v2 (K (Value.func (Fn.func 130) #[] #[]) w)
  (S P (vbin .eql 3 false true x0 (Value.int IntKind.i64 51)) w Kp fun v3 w =>
  C v3 (K (Value.func (Fn.func 131) #[] #[]) w)
  (S P (vbin .eql 3 false true x0 (Value.int IntKind.i64 52)) w Kp fun v4 w =>
  C v4 (K (Value.func (Fn.func 132) #[] #[]) w)
  (S P (vbin .eql 3 false true x0 (Value.int IntKind.i64 53)) w Kp fun v5 w =>
  C v5 (K (Value.func (Fn.func 133) #[] #[]) w)
  (S P (vbin .eql 3 false true x0 (Value.int IntKind.i64 54)) w Kp fun v6 w =>
  C v6 (K (Value.func (Fn.func 134) #[] #[]) w)
  (S P (vbin .eql 3 false true x0 (Value.int IntKind.i64 55)) w Kp fun v7 w =>
  C v7 (K (Value.func (Fn.func 135) #[] #[]) w)
  (S P (vbin .eql 3 false true x0 (Value.int IntKind.i64 56)) w Kp fun v8 w =>
  C v8 (K (Value.func (Fn.func 136) #[] #[]) w)
  (S P (vbin .eql 3 false true x0 (Value.int IntKind.i64 57)) w Kp fun v9 w =>
  C v9 (K (Value.func (Fn.func 137) #[] #[]) w)
  (S P (vbin .eql 3 false true x0 (Value.int IntKind.i64 58)) w Kp fun v10 w =>
  C v10 (K (Value.func (Fn.func 138) #[] #[]) w)
  (S P (vbin .eql 3 false true x0 (Value.int IntKind.i64 59)) w Kp fun v11 w =>
  C v11 (K (Value.func (Fn.func 139) #[] #[]) w)
  (S P (vbin .eql 3 false true x0 (Value.int IntKind.i64 60)) w Kp fun v12 w =>
  C v12 (K (Value.func (Fn.func 140) #[] #[]) w)
  (S P (vbin .eql 3 false true x0 (Value.int IntKind.i64 61)) w Kp fun v13 w =>
  C v13 (K (Value.func (Fn.func 141) #[] #[]) w)
  (S P (vbin .eql 3 false true x0 (Value.int IntKind.i64 62)) w Kp fun v14 w =>
  C v14 (K (Value.func (Fn.func 142) #[] #[]) w)
  (S P (vbin .eql 3 false true x0 (Value.int IntKind.i64 63)) w Kp fun v15 w =>
  C v15 (K (Value.func (Fn.func 143) #[] #[]) w)
  (K (Value.nilFunc) w)))))))))))))))
theorem F112_eq (x0 : Value) (w : World) (Kp : KP) (K : K0) : F112 x0 w Kp K = wpE P [2] (bodyOf Tryz.f112) (postE P Tryz.f112.results.toList Kp K) (List.range 1 ++ [2]) (ε0 #[x0]) w := by kernel_rfl
theorem F112_calls {x0 : Value} {w : World} {Kp : KP} {K : K0} (h : F112 x0 w Kp K) : Calls P 112 #[x0] w (EndsS Kp K) :=
  calls_of follows [2] Tryz.func112 (by kernel_rfl) (by kernel_rfl) (by kernel_rfl) (F112_eq x0 w Kp K ▸ h)

/-- wisp/prim.one -/
def F107 (x0 : Value) (w : World) (Kp : KP) (K : K0) : Prop :=
  S P (vbox 3 x0) w Kp fun v1 w =>
  S P (vmkF (Fn.func 122) #[] #[v1]) w Kp fun v2 w =>
  K v2 w
theorem F107_eq (x0 : Value) (w : World) (Kp : KP) (K : K0) : F107 x0 w Kp K = wpE P [2] (bodyOf Tryz.f107) (postE P Tryz.f107.results.toList Kp K) (List.range 1 ++ [2]) (ε0 #[x0]) w := by kernel_rfl
theorem F107_calls {x0 : Value} {w : World} {Kp : KP} {K : K0} (h : F107 x0 w Kp K) : Calls P 107 #[x0] w (EndsS Kp K) :=
  calls_of follows [2] Tryz.func107 (by kernel_rfl) (by kernel_rfl) (by kernel_rfl) (F107_eq x0 w Kp K ▸ h)

/-- wisp/prim.two -/
def F109 (x0 : Value) (w : World) (Kp : KP) (K : K0) : Prop :=
  S P (vbox 3 x0) w Kp fun v1 w =>
  S P (vmkF (Fn.func 126) #[] #[v1]) w Kp fun v2 w =>
  K v2 w
theorem F109_eq (x0 : Value) (w : World) (Kp : KP) (K : K0) : F109 x0 w Kp K = wpE P [2] (bodyOf Tryz.f109) (postE P Tryz.f109.results.toList Kp K) (List.range 1 ++ [2]) (ε0 #[x0]) w := by kernel_rfl
theorem F109_calls {x0 : Value} {w : World} {Kp : KP} {K : K0} (h : F109 x0 w Kp K) : Calls P 109 #[x0] w (EndsS Kp K) :=
  calls_of follows [2] Tryz.func109 (by kernel_rfl) (by kernel_rfl) (by kernel_rfl) (F109_eq x0 w Kp K ▸ h)

/-- wisp/prim.shuffle -/
def F111 (x0 x1 : Value) (w : World) (Kp : KP) (K : K0) : Prop :=
  S P (vbox 3 x0) w Kp fun v1 w =>
  S P (vbox 25 x1) w Kp fun v2 w =>
  S P (vmkF (Fn.func 127) #[] #[v1, v2]) w Kp fun v3 w =>
  K v3 w
theorem F111_eq (x0 x1 : Value) (w : World) (Kp : KP) (K : K0) : F111 x0 x1 w Kp K = wpE P [4] (bodyOf Tryz.f111) (postE P Tryz.f111.results.toList Kp K) (List.range 2 ++ [4]) (ε0 #[x0, x1]) w := by kernel_rfl
theorem F111_calls {x0 x1 : Value} {w : World} {Kp : KP} {K : K0} (h : F111 x0 x1 w Kp K) : Calls P 111 #[x0, x1] w (EndsS Kp K) :=
  calls_of follows [4] Tryz.func111 (by kernel_rfl) (by kernel_rfl) (by kernel_rfl) (F111_eq x0 x1 w Kp K ▸ h)

/-- wisp/prim.one$1 -/
def F122 (x0 x1 : Value) (w : World) (Kp : KP) (K : K0) : Prop :=
  ∃ H1 : World → Prop, H1 (drewW w) ∧
  Fl P H1 (vload 3 x1) fun v2 =>
  Fl P H1 (vnil x0) fun v3 =>
  Fl P H1 (vfield 99 v3 0) fun v4 =>
  Fl P H1 (vload 32 v4) fun v5 =>
  S P (vcall (Value.func (Fn.func 123) #[] #[]) #[v5]) (drewW w) Kp fun v6 w =>
  H1 w ∧ S P (vcall (Value.func (Fn.func 106) #[] #[]) #[v2, v6]) w Kp fun v7 w =>
  H1 w ∧ Fl P H1 (vext v7 0) fun v8 =>
  Fl P H1 (vext v7 1) fun v9 =>
  S P (vnil x0) w Kp fun v10 w =>
  S P (vfield 99 v10 0) w Kp fun v11 w =>
  S P (vload 32 v11) w Kp fun v12 w =>
  S P (vbuildS 22 1 #[(0, v8)]) w Kp fun v13 w =>
  S P (vcall (Value.func (Fn.func 26) #[] #[]) #[v12, v13]) w Kp fun v14 w =>
  K (Value.tuple #[]) w
theorem F122_eq (x0 x1 : Value) (w : World) (Kp : KP) (K : K0) : F122 x0 x1 w Kp K = wpE P [] (bodyOf Tryz.f122) (postE P Tryz.f122.results.toList Kp K) (List.range 2 ++ []) (ε0 #[x0, x1]) w := by kernel_rfl
theorem F122_calls {x0 x1 : Value} {w : World} {Kp : KP} {K : K0} (h : F122 x0 x1 w Kp K) : Calls P 122 #[x0, x1] w (EndsS Kp K) :=
  calls_of follows [] Tryz.func122 (by kernel_rfl) (by kernel_rfl) (by kernel_rfl) (F122_eq x0 x1 w Kp K ▸ h)

/-- wisp/prim.two$1 -/
def F126 (x0 x1 : Value) (w : World) (Kp : KP) (K : K0) : Prop :=
  S P (vnil x0) w Kp fun v1 w =>
  S P (vfield 99 v1 0) w Kp fun v2 w =>
  S P (vload 32 v2) w Kp fun v3 w =>
  S P (vcall (Value.func (Fn.func 123) #[] #[]) #[v3]) w Kp fun v4 w =>
  ∃ H5 : World → Prop, H5 (drewW w) ∧
  Fl P H5 (vload 3 x1) fun v6 =>
  Fl P H5 (vnil x0) fun v7 =>
  Fl P H5 (vfield 99 v7 0) fun v8 =>
  Fl P H5 (vload 32 v8) fun v9 =>
  S P (vcall (Value.func (Fn.func 123) #[] #[]) #[v9]) (drewW w) Kp fun v10 w =>
  H5 w ∧ S P (vcall (Value.func (Fn.func 108) #[] #[]) #[v6, v10, v4]) w Kp fun v11 w =>
  H5 w ∧ Fl P H5 (vext v11 0) fun v12 =>
  Fl P H5 (vext v11 1) fun v13 =>
  S P (vnil x0) w Kp fun v14 w =>
  S P (vfield 99 v14 0) w Kp fun v15 w =>
  S P (vload 32 v15) w Kp fun v16 w =>
  S P (vbuildS 22 1 #[(0, v12)]) w Kp fun v17 w =>
  S P (vcall (Value.func (Fn.func 26) #[] #[]) #[v16, v17]) w Kp fun v18 w =>
  K (Value.tuple #[]) w
theorem F126_eq (x0 x1 : Value) (w : World) (Kp : KP) (K : K0) : F126 x0 x1 w Kp K = wpE P [] (bodyOf Tryz.f126) (postE P Tryz.f126.results.toList Kp K) (List.range 2 ++ []) (ε0 #[x0, x1]) w := by kernel_rfl
theorem F126_calls {x0 x1 : Value} {w : World} {Kp : KP} {K : K0} (h : F126 x0 x1 w Kp K) : Calls P 126 #[x0, x1] w (EndsS Kp K) :=
  calls_of follows [] Tryz.func126 (by kernel_rfl) (by kernel_rfl) (by kernel_rfl) (F126_eq x0 x1 w Kp K ▸ h)

/-- wisp/prim.shuffle$1 -/
def F127 (x0 x1 x2 : Value) (w : World) (Kp : KP) (K : K0) : Prop :=
  S P (vload 3 x1) w Kp fun v1 w =>
  S P (vcall (Value.func (Fn.func 128) #[] #[]) #[x0, v1]) w Kp fun v2 w =>
  S P (vload 25 x2) w Kp fun v3 w =>
  S P (vblt .len #[25] 3 #[false] #[v3]) w Kp fun v4 w =>
  ∃ I μ, LoopE I μ (fun K6 ε5 w =>
  S P (vbin .lss 3 false false (ε5 12) (ε5 11)) w Kp fun v7 w =>
  C v7 (S P (vixA 25 (ε5 10) (ε5 12)) w Kp fun v8 w =>
  S P (vload 3 v8) w Kp fun v9 w =>
  ∃ H10 : World → Prop, H10 (drewW w) ∧
  Fl P H10 (vnil (ε5 0)) fun v11 =>
  Fl P H10 (vfield 99 v11 0) fun v12 =>
  Fl P H10 (vload 32 v12) fun v13 =>
  Fl P H10 (vixA 22 (ε5 4) v9) fun v14 =>
  Fl P H10 (vload 41 v14) fun v15 =>
  S P (vbuildS 22 1 #[(0, v15)]) (drewW w) Kp fun v16 w =>
  H10 w ∧ S P (vcall (Value.func (Fn.func 26) #[] #[]) #[v13, v16]) w Kp fun v17 w =>
  H10 w ∧ S P (vbin .add 3 false true (ε5 12) (Value.int IntKind.i64 1)) w Kp fun v18 w =>
  K6 (upd 0 (ε5 0) (upd 4 (ε5 4) (upd 10 (ε5 10) (upd 11 (ε5 11) (upd 12 v18 E0))))) w)
  (K (Value.tuple #[]) w)) (upd 0 x0 (upd 4 v2 (upd 10 v3 (upd 11 v4 (upd 12 (Value.int IntKind.i64 0) E0))))) w
theorem F127_eq (x0 x1 x2 : Value) (w : World) (Kp : KP) (K : K0) : F127 x0 x1 x2 w Kp K = wpE P [0, 4, 10, 11, 12] (bodyOf Tryz.f127) (postE P Tryz.f127.results.toList Kp K) (List.range 3 ++ [0, 4, 10, 11, 12]) (ε0 #[x0, x1, x2]) w := by kernel_rfl
theorem F127_calls {x0 x1 x2 : Value} {w : World} {Kp : KP} {K : K0} (h : F127 x0 x1 x2 w Kp K) : Calls P 127 #[x0, x1, x2] w (EndsS Kp K) :=
  calls_of follows [0, 4, 10, 11, 12] Tryz.func127 (by kernel_rfl) (by kernel_rfl) (by kernel_rfl) (F127_eq x0 x1 x2 w Kp K ▸ h)

/-- wisp/prim.doDo -/
def F129 (x0 : Value) (w : World) (Kp : KP) (K : K0) : Prop :=
  S P (vcall (Value.func (Fn.func 128) #[] #[]) #[x0, (Value.int IntKind.i64 2)]) w Kp fun v1 w =>
  ∃ H2 : World → Prop, H2 (drewW w) ∧
  Fl P H2 (vnil x0) fun v3 =>
  Fl P H2 (vfield 99 v3 1) fun v4 =>
  Fl P H2 (vload 33 v4) fun v5 =>
  Fl P H2 (vixA 22 v1 (Value.int IntKind.i64 0)) fun v6 =>
  Fl P H2 (vload 41 v6) fun v7 =>
  Fl P H2 (vbuild 75 #[(0, (Value.int IntKind.i64 2)), (1, v7)]) fun v8 =>
  Fl P H2 (vixA 22 v1 (Value.int IntKind.i64 1)) fun v9 =>
  Fl P H2 (vload 41 v9) fun v10 =>
  Fl P H2 (vbuild 75 #[(0, (Value.int IntKind.i64 3)), (1, v10)]) fun v11 =>
  S P (vbuildS 23 2 #[(0, v8), (1, v11)]) (drewW w) Kp fun v12 w =>
  H2 w ∧ S P (vcall (Value.func (Fn.func 28) #[] #[]) #[v5, v12]) w Kp fun v13 w =>
  H2 w ∧ K (Value.tuple #[]) w
theorem F129_eq (x0 : Value) (w : World) (Kp : KP) (K : K0) : F129 x0 w Kp K = wpE P [] (bodyOf Tryz.f129) (postE P Tryz.f129.results.toList Kp K) (List.range 1 ++ []) (ε0 #[x0]) w := by kernel_rfl
theorem F129_calls {x0 : Value} {w : World} {Kp : KP} {K : K0} (h : F129 x0 w Kp K) : Calls P 129 #[x0] w (EndsS Kp K) :=
  calls_of follows [] Tryz.func129 (by kernel_rfl) (by kernel_rfl) (by kernel_rfl) (F129_eq x0 w Kp K ▸ h)

/-- wisp/prim.doFetch -/
def F130 (x0 : Value) (w : World) (Kp : KP) (K : K0) : Prop :=
  ∃ H1 : World → Prop, H1 (drewW w) ∧
  Fl P H1 (vnil x0) fun v2 =>
  Fl P H1 (vfield 99 v2 0) fun v3 =>
  Fl P H1 (vload 32 v3) fun v4 =>
  Fl P H1 (vnil x0) fun v5 =>
  Fl P H1 (vfield 99 v5 2) fun v6 =>
  Fl P H1 (vload 34 v6) fun v7 =>
  Fl P H1 (vnil x0) fun v8 =>
  Fl P H1 (vfield 99 v8 0) fun v9 =>
  Fl P H1 (vload 32 v9) fun v10 =>
  S P (vcall (Value.func (Fn.func 123) #[] #[]) #[v10]) (drewW w) Kp fun v11 w =>
  H1 w ∧ S P (vcall (Value.func (Fn.func 71) #[] #[]) #[v7, v11]) w Kp fun v12 w =>
  H1 w ∧ S P (vbuildS 22 1 #[(0, v12)]) w Kp fun v13 w =>
  H1 w ∧ S P (vcall (Value.func (Fn.func 26) #[] #[]) #[v4, v13]) w Kp fun v14 w =>
  H1 w ∧ K (Value.tuple #[]) w
theorem F130_eq (x0 : Value) (w : World) (Kp : KP) (K : K0) : F130 x0 w Kp K = wpE P [] (bodyOf Tryz.f130) (postE P Tryz.f130.results.toList Kp K) (List.range 1 ++ []) (ε0 #[x0]) w := by kernel_rfl
theorem F130_calls {x0 : Value} {w : World} {Kp : KP} {K : K0} (h : F130 x0 w Kp K) : Calls P 130 #[x0] w (EndsS Kp K) :=
  calls_of follows [] Tryz.func130 (by kernel_rfl) (by kernel_rfl) (by kernel_rfl) (F130_eq x0 w Kp K ▸ h)

/-- wisp/prim.doStore -/
def F131 (x0 : Value) (w : World) (Kp : KP) (K : K0) : Prop :=
  S P (vnil x0) w Kp fun v1 w =>
  S P (vfield 99 v1 0) w Kp fun v2 w =>
  S P (vload 32 v2) w Kp fun v3 w =>
  S P (vcall (Value.func (Fn.func 123) #[] #[]) #[v3]) w Kp fun v4 w =>
  ∃ H5 : World → Prop, H5 (drewW w) ∧
  Fl P H5 (vnil x0) fun v6 =>
  Fl P H5 (vfield 99 v6 2) fun v7 =>
  Fl P H5 (vload 34 v7) fun v8 =>
  Fl P H5 (vnil x0) fun v9 =>
  Fl P H5 (vfield 99 v9 0) fun v10 =>
  Fl P H5 (vload 32 v10) fun v11 =>
  S P (vcall (Value.func (Fn.func 123) #[] #[]) #[v11]) (drewW w) Kp fun v12 w =>
  H5 w ∧ S P (vcall (Value.func (Fn.func 149) #[] #[]) #[v8, v4, v12]) w Kp fun v13 w =>
  H5 w ∧ K (Value.tuple #[]) w
theorem F131_eq (x0 : Value) (w : World) (Kp : KP) (K : K0) : F131 x0 w Kp K = wpE P [] (bodyOf Tryz.f131) (postE P Tryz.f131.results.toList Kp K) (List.range 1 ++ []) (ε0 #[x0]) w := by kernel_rfl
theorem F131_calls {x0 : Value} {w : World} {Kp : KP} {K : K0} (h : F131 x0 w Kp K) : Calls P 131 #[x0] w (EndsS Kp K) :=
  calls_of follows [] Tryz.func131 (by kernel_rfl) (by kernel_rfl) (by kernel_rfl) (F131_eq x0 w Kp K ▸ h)

/-- wisp/prim.doByte -/
def F132 (x0 : Value) (w : World) (Kp : KP) (K : K0) : Prop :=
  ∃ H1 : World → Prop, H1 (drewW w) ∧
  Fl P H1 (vnil x0) fun v2 =>
  Fl P H1 (vfield 99 v2 0) fun v3 =>
  Fl P H1 (vload 32 v3) fun v4 =>
  Fl P H1 (vnil x0) fun v5 =>
  Fl P H1 (vfield 99 v5 2) fun v6 =>
  Fl P H1 (vload 34 v6) fun v7 =>
  Fl P H1 (vnil x0) fun v8 =>
  Fl P H1 (vfield 99 v8 0) fun v9 =>
  Fl P H1 (vload 32 v9) fun v10 =>
  S P (vcall (Value.func (Fn.func 123) #[] #[]) #[v10]) (drewW w) Kp fun v11 w =>
  H1 w ∧ S P (vcall (Value.func (Fn.func 105) #[] #[]) #[v7, v11]) w Kp fun v12 w =>
  H1 w ∧ Fl P H1 (vconv 5 41 v12) fun v13 =>
  S P (vbuildS 22 1 #[(0, v13)]) w Kp fun v14 w =>
  H1 w ∧ S P (vcall (Value.func (Fn.func 26) #[] #[]) #[v4, v14]) w Kp fun v15 w =>
  H1 w ∧ K (Value.tuple #[]) w
theorem F132_eq (x0 : Value) (w : World) (Kp : KP) (K : K0) : F132 x0 w Kp K = wpE P [] (bodyOf Tryz.f132) (postE P Tryz.f132.results.toList Kp K) (List.range 1 ++ []) (ε0 #[x0]) w := by kernel_rfl
theorem F132_calls {x0 : Value} {w : World} {Kp : KP} {K : K0} (h : F132 x0 w Kp K) : Calls P 132 #[x0] w (EndsS Kp K) :=
  calls_of follows [] Tryz.func132 (by kernel_rfl) (by kernel_rfl) (by kernel_rfl) (F132_eq x0 w Kp K ▸ h)

/-- wisp/prim.doPut -/
def F133 (x0 : Value) (w : World) (Kp : KP) (K : K0) : Prop :=
  S P (vnil x0) w Kp fun v1 w =>
  S P (vfield 99 v1 0) w Kp fun v2 w =>
  S P (vload 32 v2) w Kp fun v3 w =>
  S P (vcall (Value.func (Fn.func 123) #[] #[]) #[v3]) w Kp fun v4 w =>
  ∃ H5 : World → Prop, H5 (drewW w) ∧
  Fl P H5 (vnil x0) fun v6 =>
  Fl P H5 (vfield 99 v6 2) fun v7 =>
  Fl P H5 (vload 34 v7) fun v8 =>
  Fl P H5 (vnil x0) fun v9 =>
  Fl P H5 (vfield 99 v9 0) fun v10 =>
  Fl P H5 (vload 32 v10) fun v11 =>
  S P (vcall (Value.func (Fn.func 123) #[] #[]) #[v11]) (drewW w) Kp fun v12 w =>
  H5 w ∧ Fl P H5 (vbin .and 41 false true v12 (Value.int IntKind.u16 255)) fun v13 =>
  Fl P H5 (vconv 41 5 v13) fun v14 =>
  S P (vcall (Value.func (Fn.func 16) #[] #[]) #[v8, v4, v14]) w Kp fun v15 w =>
  H5 w ∧ K (Value.tuple #[]) w
theorem F133_eq (x0 : Value) (w : World) (Kp : KP) (K : K0) : F133 x0 w Kp K = wpE P [] (bodyOf Tryz.f133) (postE P Tryz.f133.results.toList Kp K) (List.range 1 ++ []) (ε0 #[x0]) w := by kernel_rfl
theorem F133_calls {x0 : Value} {w : World} {Kp : KP} {K : K0} (h : F133 x0 w Kp K) : Calls P 133 #[x0] w (EndsS Kp K) :=
  calls_of follows [] Tryz.func133 (by kernel_rfl) (by kernel_rfl) (by kernel_rfl) (F133_eq x0 w Kp K ▸ h)

/-- wisp/prim.doMore -/
def F134 (x0 : Value) (w : World) (Kp : KP) (K : K0) : Prop :=
  S P (vnil x0) w Kp fun v1 w =>
  S P (vfield 99 v1 0) w Kp fun v2 w =>
  S P (vload 32 v2) w Kp fun v3 w =>
  S P (vcall (Value.func (Fn.func 123) #[] #[]) #[v3]) w Kp fun v4 w =>
  ∃ H5 : World → Prop, H5 (drewW w) ∧
  Fl P H5 (vnil x0) fun v6 =>
  Fl P H5 (vfield 99 v6 2) fun v7 =>
  Fl P H5 (vload 34 v7) fun v8 =>
  Fl P H5 (vnil x0) fun v9 =>
  Fl P H5 (vfield 99 v9 2) fun v10 =>
  Fl P H5 (vload 34 v10) fun v11 =>
  Fl P H5 (vnil x0) fun v12 =>
  Fl P H5 (vfield 99 v12 0) fun v13 =>
  Fl P H5 (vload 32 v13) fun v14 =>
  S P (vcall (Value.func (Fn.func 71) #[] #[]) #[v11, v4]) (drewW w) Kp fun v15 w =>
  H5 w ∧ S P (vcall (Value.func (Fn.func 123) #[] #[]) #[v14]) w Kp fun v16 w =>
  H5 w ∧ Fl P H5 (vbin .add 41 false false v15 v16) fun v17 =>
  S P (vcall (Value.func (Fn.func 149) #[] #[]) #[v8, v4, v17]) w Kp fun v18 w =>
  H5 w ∧ K (Value.tuple #[]) w
theorem F134_eq (x0 : Value) (w : World) (Kp : KP) (K : K0) : F134 x0 w Kp K = wpE P [] (bodyOf Tryz.f134) (postE P Tryz.f134.results.toList Kp K) (List.range 1 ++ []) (ε0 #[x0]) w := by kernel_rfl
theorem F134_calls {x0 : Value} {w : World} {Kp : KP} {K : K0} (h : F134 x0 w Kp K) : Calls P 134 #[x0] w (EndsS Kp K) :=
  calls_of follows [] Tryz.func134 (by kernel_rfl) (by kernel_rfl) (by kernel_rfl) (F134_eq x0 w Kp K ▸ h)

/-- wisp/prim.doSave -/
def F135 (x0 : Value) (w : World) (Kp : KP) (K : K0) : Prop :=
  ∃ H1 : World → Prop, H1 (drewW w) ∧
  Fl P H1 (vnil x0) fun v2 =>
  Fl P H1 (vfield 99 v2 1) fun v3 =>
  Fl P H1 (vload 33 v3) fun v4 =>
  Fl P H1 (vnil x0) fun v5 =>
  Fl P H1 (vfield 99 v5 0) fun v6 =>
  Fl P H1 (vload 32 v6) fun v7 =>
  S P (vcall (Value.func (Fn.func 123) #[] #[]) #[v7]) (drewW w) Kp fun v8 w =>
  H1 w ∧ Fl P H1 (vbuild 75 #[(0, (Value.int IntKind.i64 4)), (1, v8)]) fun v9 =>
  S P (vbuildS 23 1 #[(0, v9)]) w Kp fun v10 w =>
  H1 w ∧ S P (vcall (Value.func (Fn.func 28) #[] #[]) #[v4, v10]) w Kp fun v11 w =>
  H1 w ∧ K (Value.tuple #[]) w
theorem F135_eq (x0 : Value) (w : World) (Kp : KP) (K : K0) : F135 x0 w Kp K = wpE P [] (bodyOf Tryz.f135) (postE P Tryz.f135.results.toList Kp K) (List.range 1 ++ []) (ε0 #[x0]) w := by kernel_rfl
theorem F135_calls {x0 : Value} {w : World} {Kp : KP} {K : K0} (h : F135 x0 w Kp K) : Calls P 135 #[x0] w (EndsS Kp K) :=
  calls_of follows [] Tryz.func135 (by kernel_rfl) (by kernel_rfl) (by kernel_rfl) (F135_eq x0 w Kp K ▸ h)

/-- wisp/prim.doBack -/
def F136 (x0 : Value) (w : World) (Kp : KP) (K : K0) : Prop :=
  S P (vnil x0) w Kp fun v1 w =>
  S P (vfield 99 v1 1) w Kp fun v2 w =>
  S P (vload 33 v2) w Kp fun v3 w =>
  S P (vcall (Value.func (Fn.func 150) #[] #[]) #[v3, (Value.int IntKind.i64 4)]) w Kp fun v4 w =>
  S P (vext v4 0) w Kp fun v5 w =>
  S P (vext v4 1) w Kp fun v6 w =>
  S P (vnil x0) w Kp fun v7 w =>
  S P (vfield 99 v7 0) w Kp fun v8 w =>
  S P (vload 32 v8) w Kp fun v9 w =>
  S P (vbuildS 22 1 #[(0, v5)]) w Kp fun v10 w =>
  S P (vcall (Value.func (Fn.func 26) #[] #[]) #[v9, v10]) w Kp fun v11 w =>
  K (Value.tuple #[]) w
theorem F136_eq (x0 : Value) (w : World) (Kp : KP) (K : K0) : F136 x0 w Kp K = wpE P [] (bodyOf Tryz.f136) (postE P Tryz.f136.results.toList Kp K) (List.range 1 ++ []) (ε0 #[x0]) w := by kernel_rfl
theorem F136_calls {x0 : Value} {w : World} {Kp : KP} {K : K0} (h : F136 x0 w Kp K) : Calls P 136 #[x0] w (EndsS Kp K) :=
  calls_of follows [] Tryz.func136 (by kernel_rfl) (by kernel_rfl) (by kernel_rfl) (F136_eq x0 w Kp K ▸ h)

/-- wisp/prim.doSee -/
def F137 (x0 : Value) (w : World) (Kp : KP) (K : K0) : Prop :=
  S P (vcall (Value.func (Fn.func 151) #[] #[]) #[x0, (Value.int IntKind.i64 0), (Value.int IntKind.i64 4)]) w Kp fun v1 w =>
  K (Value.tuple #[]) w
theorem F137_eq (x0 : Value) (w : World) (Kp : KP) (K : K0) : F137 x0 w Kp K = wpE P [] (bodyOf Tryz.f137) (postE P Tryz.f137.results.toList Kp K) (List.range 1 ++ []) (ε0 #[x0]) w := by kernel_rfl
theorem F137_calls {x0 : Value} {w : World} {Kp : KP} {K : K0} (h : F137 x0 w Kp K) : Calls P 137 #[x0] w (EndsS Kp K) :=
  calls_of follows [] Tryz.func137 (by kernel_rfl) (by kernel_rfl) (by kernel_rfl) (F137_eq x0 w Kp K ▸ h)

/-- wisp/prim.doIndex -/
def F138 (x0 : Value) (w : World) (Kp : KP) (K : K0) : Prop :=
  S P (vcall (Value.func (Fn.func 151) #[] #[]) #[x0, (Value.int IntKind.i64 0), (Value.int IntKind.i64 3)]) w Kp fun v1 w =>
  K (Value.tuple #[]) w
theorem F138_eq (x0 : Value) (w : World) (Kp : KP) (K : K0) : F138 x0 w Kp K = wpE P [] (bodyOf Tryz.f138) (postE P Tryz.f138.results.toList Kp K) (List.range 1 ++ []) (ε0 #[x0]) w := by kernel_rfl
theorem F138_calls {x0 : Value} {w : World} {Kp : KP} {K : K0} (h : F138 x0 w Kp K) : Calls P 138 #[x0] w (EndsS Kp K) :=
  calls_of follows [] Tryz.func138 (by kernel_rfl) (by kernel_rfl) (by kernel_rfl) (F138_eq x0 w Kp K ▸ h)

/-- wisp/prim.doOuter -/
def F139 (x0 : Value) (w : World) (Kp : KP) (K : K0) : Prop :=
  S P (vcall (Value.func (Fn.func 151) #[] #[]) #[x0, (Value.int IntKind.i64 2), (Value.int IntKind.i64 3)]) w Kp fun v1 w =>
  K (Value.tuple #[]) w
theorem F139_eq (x0 : Value) (w : World) (Kp : KP) (K : K0) : F139 x0 w Kp K = wpE P [] (bodyOf Tryz.f139) (postE P Tryz.f139.results.toList Kp K) (List.range 1 ++ []) (ε0 #[x0]) w := by kernel_rfl
theorem F139_calls {x0 : Value} {w : World} {Kp : KP} {K : K0} (h : F139 x0 w Kp K) : Calls P 139 #[x0] w (EndsS Kp K) :=
  calls_of follows [] Tryz.func139 (by kernel_rfl) (by kernel_rfl) (by kernel_rfl) (F139_eq x0 w Kp K ▸ h)

/-- wisp/prim.doPlot -/
def F140 (x0 : Value) (w : World) (Kp : KP) (K : K0) : Prop :=
  S P (vcall (Value.func (Fn.func 128) #[] #[]) #[x0, (Value.int IntKind.i64 3)]) w Kp fun v1 w =>
  ∃ H2 : World → Prop, H2 (drewW w) ∧
  Fl P H2 (vnil x0) fun v3 =>
  Fl P H2 (vfield 99 v3 2) fun v4 =>
  Fl P H2 (vload 34 v4) fun v5 =>
  Fl P H2 (vixA 22 v1 (Value.int IntKind.i64 0)) fun v6 =>
  Fl P H2 (vload 41 v6) fun v7 =>
  Fl P H2 (vixA 22 v1 (Value.int IntKind.i64 1)) fun v8 =>
  Fl P H2 (vload 41 v8) fun v9 =>
  Fl P H2 (vixA 22 v1 (Value.int IntKind.i64 2)) fun v10 =>
  Fl P H2 (vload 41 v10) fun v11 =>
  S P (vcall (Value.func (Fn.func 152) #[] #[]) #[v5, v7, v9, v11]) (drewW w) Kp fun v12 w =>
  H2 w ∧ K (Value.tuple #[]) w
theorem F140_eq (x0 : Value) (w : World) (Kp : KP) (K : K0) : F140 x0 w Kp K = wpE P [] (bodyOf Tryz.f140) (postE P Tryz.f140.results.toList Kp K) (List.range 1 ++ []) (ε0 #[x0]) w := by kernel_rfl
theorem F140_calls {x0 : Value} {w : World} {Kp : KP} {K : K0} (h : F140 x0 w Kp K) : Calls P 140 #[x0] w (EndsS Kp K) :=
  calls_of follows [] Tryz.func140 (by kernel_rfl) (by kernel_rfl) (by kernel_rfl) (F140_eq x0 w Kp K ▸ h)

/-- wisp/prim.doPad -/
def F141 (x0 : Value) (w : World) (Kp : KP) (K : K0) : Prop :=
  ∃ H1 : World → Prop, H1 (drewW w) ∧
  Fl P H1 (vnil x0) fun v2 =>
  Fl P H1 (vfield 99 v2 0) fun v3 =>
  Fl P H1 (vload 32 v3) fun v4 =>
  Fl P H1 (vnil x0) fun v5 =>
  Fl P H1 (vfield 99 v5 2) fun v6 =>
  Fl P H1 (vload 34 v6) fun v7 =>
  S P (vcall (Value.func (Fn.func 153) #[] #[]) #[v7]) (drewW w) Kp fun v8 w =>
  H1 w ∧ Fl P H1 (vconv 5 41 v8) fun v9 =>
  S P (vbuildS 22 1 #[(0, v9)]) w Kp fun v10 w =>
  H1 w ∧ S P (vcall (Value.func (Fn.func 26) #[] #[]) #[v4, v10]) w Kp fun v11 w =>
  H1 w ∧ K (Value.tuple #[]) w
theorem F141_eq (x0 : Value) (w : World) (Kp : KP) (K : K0) : F141 x0 w Kp K = wpE P [] (bodyOf Tryz.f141) (postE P Tryz.f141.results.toList Kp K) (List.range 1 ++ []) (ε0 #[x0]) w := by kernel_rfl
theorem F141_calls {x0 : Value} {w : World} {Kp : KP} {K : K0} (h : F141 x0 w Kp K) : Calls P 141 #[x0] w (EndsS Kp K) :=
  calls_of follows [] Tryz.func141 (by kernel_rfl) (by kernel_rfl) (by kernel_rfl) (F141_eq x0 w Kp K ▸ h)

/-- wisp/prim.doTone -/
def F142 (x0 : Value) (w : World) (Kp : KP) (K : K0) : Prop :=
  S P (vnil x0) w Kp fun v1 w =>
  S P (vfield 99 v1 0) w Kp fun v2 w =>
  S P (vload 32 v2) w Kp fun v3 w =>
  S P (vcall (Value.func (Fn.func 123) #[] #[]) #[v3]) w Kp fun v4 w =>
  ∃ H5 : World → Prop, H5 (drewW w) ∧
  Fl P H5 (vnil x0) fun v6 =>
  Fl P H5 (vfield 99 v6 2) fun v7 =>
  Fl P H5 (vload 34 v7) fun v8 =>
  Fl P H5 (vnil x0) fun v9 =>
  Fl P H5 (vfield 99 v9 0) fun v10 =>
  Fl P H5 (vload 32 v10) fun v11 =>
  Fl P H5 (vbin .and 41 false true v4 (Value.int IntKind.u16 255)) fun v12 =>
  Fl P H5 (vconv 41 5 v12) fun v13 =>
  S P (vcall (Value.func (Fn.func 123) #[] #[]) #[v11]) (drewW w) Kp fun v14 w =>
  H5 w ∧ S P (vcall (Value.func (Fn.func 154) #[] #[]) #[v8, v14, v13]) w Kp fun v15 w =>
  H5 w ∧ K (Value.tuple #[]) w
theorem F142_eq (x0 : Value) (w : World) (Kp : KP) (K : K0) : F142 x0 w Kp K = wpE P [] (bodyOf Tryz.f142) (postE P Tryz.f142.results.toList Kp K) (List.range 1 ++ []) (ε0 #[x0]) w := by kernel_rfl
theorem F142_calls {x0 : Value} {w : World} {Kp : KP} {K : K0} (h : F142 x0 w Kp K) : Calls P 142 #[x0] w (EndsS Kp K) :=
  calls_of follows [] Tryz.func142 (by kernel_rfl) (by kernel_rfl) (by kernel_rfl) (F142_eq x0 w Kp K ▸ h)

/-- wisp/prim.doBank -/
def F143 (x0 : Value) (w : World) (Kp : KP) (K : K0) : Prop :=
  ∃ H1 : World → Prop, H1 (drewW w) ∧
  Fl P H1 (vnil x0) fun v2 =>
  Fl P H1 (vfield 99 v2 2) fun v3 =>
  Fl P H1 (vload 34 v3) fun v4 =>
  Fl P H1 (vnil x0) fun v5 =>
  Fl P H1 (vfield 99 v5 0) fun v6 =>
  Fl P H1 (vload 32 v6) fun v7 =>
  S P (vcall (Value.func (Fn.func 123) #[] #[]) #[v7]) (drewW w) Kp fun v8 w =>
  H1 w ∧ S P (vcall (Value.func (Fn.func 155) #[] #[]) #[v4, v8]) w Kp fun v9 w =>
  H1 w ∧ K (Value.tuple #[]) w
theorem F143_eq (x0 : Value) (w : World) (Kp : KP) (K : K0) : F143 x0 w Kp K = wpE P [] (bodyOf Tryz.f143) (postE P Tryz.f143.results.toList Kp K) (List.range 1 ++ []) (ε0 #[x0]) w := by kernel_rfl
theorem F143_calls {x0 : Value} {w : World} {Kp : KP} {K : K0} (h : F143 x0 w Kp K) : Calls P 143 #[x0] w (EndsS Kp K) :=
  calls_of follows [] Tryz.func143 (by kernel_rfl) (by kernel_rfl) (by kernel_rfl) (F143_eq x0 w Kp K ▸ h)

/-- wisp/prim.doNothing -/
def F110 (x0 : Value) (w : World) (Kp : KP) (K : K0) : Prop :=
  K (Value.tuple #[]) w
theorem F110_eq (x0 : Value) (w : World) (Kp : KP) (K : K0) : F110 x0 w Kp K = wpE P [] (bodyOf Tryz.f110) (postE P Tryz.f110.results.toList Kp K) (List.range 1 ++ []) (ε0 #[x0]) w := by kernel_rfl
theorem F110_calls {x0 : Value} {w : World} {Kp : KP} {K : K0} (h : F110 x0 w Kp K) : Calls P 110 #[x0] w (EndsS Kp K) :=
  calls_of follows [] Tryz.func110 (by kernel_rfl) (by kernel_rfl) (by kernel_rfl) (F110_eq x0 w Kp K ▸ h)

/-- (*wisp/prim.desk).sees -/
def F151 (x0 x1 x2 : Value) (w : World) (Kp : KP) (K : K0) : Prop :=
  S P (vnil x0) w Kp fun v1 w =>
  S P (vfield 99 v1 1) w Kp fun v2 w =>
  S P (vload 33 v2) w Kp fun v3 w =>
  S P (vcall (Value.func (Fn.func 75) #[] #[]) #[v3, x1, x2]) w Kp fun v4 w =>
  S P (vext v4 0) w Kp fun v5 w =>
  S P (vext v4 1) w Kp fun v6 w =>
  S P (vnil x0) w Kp fun v7 w =>
  S P (vfield 99 v7 0) w Kp fun v8 w =>
  S P (vload 32 v8) w Kp fun v9 w =>
  S P (vbuildS 22 1 #[(0, v5)]) w Kp fun v10 w =>
  S P (vcall (Value.func (Fn.func 26) #[] #[]) #[v9, v10]) w Kp fun v11 w =>
  K (Value.tuple #[]) w
theorem F151_eq (x0 x1 x2 : Value) (w : World) (Kp : KP) (K : K0) : F151 x0 x1 x2 w Kp K = wpE P [] (bodyOf Tryz.f151) (postE P Tryz.f151.results.toList Kp K) (List.range 3 ++ []) (ε0 #[x0, x1, x2]) w := by kernel_rfl
theorem F151_calls {x0 x1 x2 : Value} {w : World} {Kp : KP} {K : K0} (h : F151 x0 x1 x2 w Kp K) : Calls P 151 #[x0, x1, x2] w (EndsS Kp K) :=
  calls_of follows [] Tryz.func151 (by kernel_rfl) (by kernel_rfl) (by kernel_rfl) (F151_eq x0 x1 x2 w Kp K ▸ h)

/-- wisp/num.Unary -/
def F106 (x0 x1 : Value) (w : World) (Kp : KP) (K : K0) : Prop :=
  J (fun ε1 w => K (Value.tuple #[(Value.int IntKind.u16 0), (Value.bool false)]) w) fun k2 =>
  J (fun ε3 w => S P (vun .xor (ε3 1)) w Kp fun v5 w =>
  K (Value.tuple #[v5, (Value.bool true)]) w) fun k4 =>
  J (fun ε6 w => S P (vbin .sub 41 false true (ε6 1) (Value.int IntKind.u16 1)) w Kp fun v8 w =>
  k4 (upd 1 v8 (upd 4 (ε6 4) (upd 5 (ε6 5) (upd 6 (ε6 6) E0)))) w) fun k7 =>
  S P (vbin .eql 3 false true x0 (Value.int IntKind.i64 29)) w Kp fun v9 w =>
  C v9 (S P (vbin .lss 41 false true x1 (Value.int IntKind.u16 32768)) w Kp fun v10 w =>
  C v10 (K (Value.tuple #[x1, (Value.bool true)]) w)
  (k7 (upd 1 x1 (upd 4 (Value.int IntKind.u16 0) (upd 5 (Value.bool false) (upd 6 x0 E0)))) w))
  (S P (vbin .eql 3 false true x0 (Value.int IntKind.i64 28)) w Kp fun v11 w =>
  C v11 (k7 (upd 1 x1 (upd 4 (Value.int IntKind.u16 0) (upd 5 (Value.bool false) (upd 6 x0 E0)))) w)
  (S P (vbin .eql 3 false true x0 (Value.int IntKind.i64 39)) w Kp fun v12 w =>
  C v12 (k4 (upd 1 x1 (upd 4 (Value.int IntKind.u16 0) (upd 5 (Value.bool false) (upd 6 x0 E0)))) w)
  (S P (vbin .eql 3 false true x0 (Value.int IntKind.i64 32)) w Kp fun v13 w =>
  C v13 (S P (vbin .add 41 false true x1 (Value.int IntKind.u16 1)) w Kp fun v14 w =>
  K (Value.tuple #[v14, (Value.bool true)]) w)
  (S P (vbin .eql 3 false true x0 (Value.int IntKind.i64 33)) w Kp fun v15 w =>
  C v15 (S P (vbin .sub 41 false true x1 (Value.int IntKind.u16 1)) w Kp fun v16 w =>
  K (Value.tuple #[v16, (Value.bool true)]) w)
  (S P (vbin .eql 3 false true x0 (Value.int IntKind.i64 34)) w Kp fun v17 w =>
  C v17 (S P (vbin .add 41 false false x1 x1) w Kp fun v18 w =>
  K (Value.tuple #[v18, (Value.bool true)]) w)
  (S P (vbin .eql 3 false true x0 (Value.int IntKind.i64 35)) w Kp fun v19 w =>
  C v19 (S P (vcall (Value.func (Fn.func 120) #[] #[]) #[x1]) w Kp fun v20 w =>
  S P (vbin .shr 3 false true v20 (Value.int IntKind.u64 1)) w Kp fun v21 w =>
  S P (vcall (Value.func (Fn.func 119) #[] #[]) #[v21]) w Kp fun v22 w =>
  K (Value.tuple #[v22, (Value.bool true)]) w)
  (S P (vbin .eql 3 false true x0 (Value.int IntKind.i64 48)) w Kp fun v23 w =>
  C v23 (S P (vbin .eql 41 false true x1 (Value.int IntKind.u16 0)) w Kp fun v24 w =>
  S P (vcall (Value.func (Fn.func 121) #[] #[]) #[v24]) w Kp fun v25 w =>
  K (Value.tuple #[v25, (Value.bool true)]) w)
  (S P (vbin .eql 3 false true x0 (Value.int IntKind.i64 49)) w Kp fun v26 w =>
  C v26 (S P (vbin .geq 41 false true x1 (Value.int IntKind.u16 32768)) w Kp fun v27 w =>
  S P (vcall (Value.func (Fn.func 121) #[] #[]) #[v27]) w Kp fun v28 w =>
  K (Value.tuple #[v28, (Value.bool true)]) w)
  (k2 (upd 1 x1 (upd 4 (Value.int IntKind.u16 0) (upd 5 (Value.bool false) (upd 6 x0 E0)))) w)))))))))
theorem F106_eq (x0 x1 : Value) (w : World) (Kp : KP) (K : K0) : F106 x0 x1 w Kp K = wpE P [1, 4, 5, 6] (bodyOf Tryz.f106) (postE P Tryz.f106.results.toList Kp K) (List.range 2 ++ [1, 4, 5, 6]) (ε0 #[x0, x1]) w := by kernel_rfl
theorem F106_calls {x0 x1 : Value} {w : World} {Kp : KP} {K : K0} (h : F106 x0 x1 w Kp K) : Calls P 106 #[x0, x1] w (EndsS Kp K) :=
  calls_of follows [1, 4, 5, 6] Tryz.func106 (by kernel_rfl) (by kernel_rfl) (by kernel_rfl) (F106_eq x0 x1 w Kp K ▸ h)

/-- wisp/num.Binary -/
def F108 (x0 x1 x2 : Value) (w : World) (Kp : KP) (K : K0) : Prop :=
  J (fun ε1 w => S P (vcall (Value.func (Fn.func 125) #[] #[]) #[(ε1 0), (ε1 1), (ε1 2)]) w Kp fun v3 w =>
  S P (vext v3 0) w Kp fun v4 w =>
  S P (vext v3 1) w Kp fun v5 w =>
  K (Value.tuple #[v4, v5]) w) fun k2 =>
  J (fun ε6 w => S P (vbin .add 41 false false (ε6 1) (ε6 2)) w Kp fun v8 w =>
  K (Value.tuple #[v8, (Value.bool true)]) w) fun k7 =>
  S P (vbin .eql 3 false true x0 (Value.int IntKind.i64 22)) w Kp fun v9 w =>
  C v9 (S P (vun .neg x2) w Kp fun v10 w =>
  k7 (upd 0 x0 (upd 1 x1 (upd 2 v10 (upd 6 (Value.int IntKind.u16 0) (upd 7 (Value.bool false) (upd 8 x0 (upd 15 undef E0))))))) w)
  (S P (vbin .eql 3 false true x0 (Value.int IntKind.i64 21)) w Kp fun v11 w =>
  C v11 (k7 (upd 0 x0 (upd 1 x1 (upd 2 x2 (upd 6 (Value.int IntKind.u16 0) (upd 7 (Value.bool false) (upd 8 x0 (upd 15 undef E0))))))) w)
  (S P (vbin .eql 3 false true x0 (Value.int IntKind.i64 23)) w Kp fun v12 w =>
  C v12 (S P (vbin .mul 41 false false x1 x2) w Kp fun v13 w =>
  K (Value.tuple #[v13, (Value.bool true)]) w)
  (J (fun ε14 w => C (ε14 15) (S P (vcall (Value.func (Fn.func 124) #[] #[]) #[(ε14 0), (ε14 1), (ε14 2)]) w Kp fun v16 w =>
  K (Value.tuple #[v16, (Value.bool true)]) w)
  (S P (vbin .eql 3 false true (ε14 8) (Value.int IntKind.i64 36)) w Kp fun v17 w =>
  C v17 (S P (vbin .and 41 false false (ε14 1) (ε14 2)) w Kp fun v18 w =>
  K (Value.tuple #[v18, (Value.bool true)]) w)
  (S P (vbin .eql 3 false true (ε14 8) (Value.int IntKind.i64 37)) w Kp fun v19 w =>
  C v19 (S P (vbin .or 41 false false (ε14 1) (ε14 2)) w Kp fun v20 w =>
  K (Value.tuple #[v20, (Value.bool true)]) w)
  (S P (vbin .eql 3 false true (ε14 8) (Value.int IntKind.i64 38)) w Kp fun v21 w =>
  C v21 (S P (vbin .xor 41 false false (ε14 1) (ε14 2)) w Kp fun v22 w =>
  K (Value.tuple #[v22, (Value.bool true)]) w)
  (S P (vbin .eql 3 false true (ε14 8) (Value.int IntKind.i64 40)) w Kp fun v23 w =>
  C v23 (S P (vbin .shl 41 false false (ε14 1) (ε14 2)) w Kp fun v24 w =>
  K (Value.tuple #[v24, (Value.bool true)]) w)
  (S P (vbin .eql 3 false true (ε14 8) (Value.int IntKind.i64 41)) w Kp fun v25 w =>
  C v25 (S P (vbin .shr 41 false false (ε14 1) (ε14 2)) w Kp fun v26 w =>
  K (Value.tuple #[v26, (Value.bool true)]) w)
  (k2 (upd 0 (ε14 0) (upd 1 (ε14 1) (upd 2 (ε14 2) (upd 6 (ε14 6) (upd 7 (ε14 7) (upd 8 (ε14 8) (upd 15 (ε14 15) E0))))))) w))))))) fun k15 =>
  S P (vbin .eql 3 false true x0 (Value.int IntKind.i64 24)) w Kp fun v27 w =>
  C v27 (k15 (upd 0 x0 (upd 1 x1 (upd 2 x2 (upd 6 (Value.int IntKind.u16 0) (upd 7 (Value.bool false) (upd 8 x0 (upd 15 v27 E0))))))) w)
  (S P (vbin .eql 3 false true x0 (Value.int IntKind.i64 25)) w Kp fun v28 w =>
  C v28 (k15 (upd 0 x0 (upd 1 x1 (upd 2 x2 (upd 6 (Value.int IntKind.u16 0) (upd 7 (Value.bool false) (upd 8 x0 (upd 15 v28 E0))))))) w)
  (S P (vbin .eql 3 false true x0 (Value.int IntKind.i64 26)) w Kp fun v29 w =>
  C v29 (k15 (upd 0 x0 (upd 1 x1 (upd 2 x2 (upd 6 (Value.int IntKind.u16 0) (upd 7 (Value.bool false) (upd 8 x0 (upd 15 v29 E0))))))) w)
  (S P (vbin .eql 3 false true x0 (Value.int IntKind.i64 27)) w Kp fun v30 w =>
  k15 (upd 0 x0 (upd 1 x1 (upd 2 x2 (upd 6 (Value.int IntKind.u16 0) (upd 7 (Value.bool false) (upd 8 x0 (upd 15 v30 E0))))))) w))))))
theorem F108_eq (x0 x1 x2 : Value) (w : World) (Kp : KP) (K : K0) : F108 x0 x1 x2 w Kp K = wpE P [0, 1, 2, 6, 7, 8, 15] (bodyOf Tryz.f108) (postE P Tryz.f108.results.toList Kp K) (List.range 3 ++ [0, 1, 2, 6, 7, 8, 15]) (ε0 #[x0, x1, x2]) w := by kernel_rfl
theorem F108_calls {x0 x1 x2 : Value} {w : World} {Kp : KP} {K : K0} (h : F108 x0 x1 x2 w Kp K) : Calls P 108 #[x0, x1, x2] w (EndsS Kp K) :=
  calls_of follows [0, 1, 2, 6, 7, 8, 15] Tryz.func108 (by kernel_rfl) (by kernel_rfl) (by kernel_rfl) (F108_eq x0 x1 x2 w Kp K ▸ h)

/-- wisp/num.Cell -/
def F119 (x0 : Value) (w : World) (Kp : KP) (K : K0) : Prop :=
  S P (vconv 3 41 x0) w Kp fun v1 w =>
  K v1 w
theorem F119_eq (x0 : Value) (w : World) (Kp : KP) (K : K0) : F119 x0 w Kp K = wpE P [2] (bodyOf Tryz.f119) (postE P Tryz.f119.results.toList Kp K) (List.range 1 ++ [2]) (ε0 #[x0]) w := by kernel_rfl
theorem F119_calls {x0 : Value} {w : World} {Kp : KP} {K : K0} (h : F119 x0 w Kp K) : Calls P 119 #[x0] w (EndsS Kp K) :=
  calls_of follows [2] Tryz.func119 (by kernel_rfl) (by kernel_rfl) (by kernel_rfl) (F119_eq x0 w Kp K ▸ h)

/-- wisp/num.Signed -/
def F120 (x0 : Value) (w : World) (Kp : KP) (K : K0) : Prop :=
  S P (vconv 41 188 x0) w Kp fun v1 w =>
  S P (vconv 188 3 v1) w Kp fun v2 w =>
  K v2 w
theorem F120_eq (x0 : Value) (w : World) (Kp : KP) (K : K0) : F120 x0 w Kp K = wpE P [2] (bodyOf Tryz.f120) (postE P Tryz.f120.results.toList Kp K) (List.range 1 ++ [2]) (ε0 #[x0]) w := by kernel_rfl
theorem F120_calls {x0 : Value} {w : World} {Kp : KP} {K : K0} (h : F120 x0 w Kp K) : Calls P 120 #[x0] w (EndsS Kp K) :=
  calls_of follows [2] Tryz.func120 (by kernel_rfl) (by kernel_rfl) (by kernel_rfl) (F120_eq x0 w Kp K ▸ h)

/-- wisp/num.Flag -/
def F121 (x0 : Value) (w : World) (Kp : KP) (K : K0) : Prop :=
  C x0 (K (Value.int IntKind.u16 65535) w)
  (K (Value.int IntKind.u16 0) w)
theorem F121_eq (x0 : Value) (w : World) (Kp : KP) (K : K0) : F121 x0 w Kp K = wpE P [2] (bodyOf Tryz.f121) (postE P Tryz.f121.results.toList Kp K) (List.range 1 ++ [2]) (ε0 #[x0]) w := by kernel_rfl
theorem F121_calls {x0 : Value} {w : World} {Kp : KP} {K : K0} (h : F121 x0 w Kp K) : Calls P 121 #[x0] w (EndsS Kp K) :=
  calls_of follows [2] Tryz.func121 (by kernel_rfl) (by kernel_rfl) (by kernel_rfl) (F121_eq x0 w Kp K ▸ h)

/-- wisp/num.divided -/
def F124 (x0 x1 x2 : Value) (w : World) (Kp : KP) (K : K0) : Prop :=
  S P (vbin .eql 41 false true x2 (Value.int IntKind.u16 0)) w Kp fun v1 w =>
  C v1 (K (Value.int IntKind.u16 0) w)
  (S P (vcall (Value.func (Fn.func 120) #[] #[]) #[x1]) w Kp fun v2 w =>
  S P (vcall (Value.func (Fn.func 120) #[] #[]) #[x2]) w Kp fun v3 w =>
  J (fun ε4 w => S P (vbin .rem 3 false false (ε4 7) (ε4 8)) w Kp fun v6 w =>
  S P (vcall (Value.func (Fn.func 119) #[] #[]) #[v6]) w Kp fun v7 w =>
  K v7 w) fun k5 =>
  J (fun ε8 w => S P (vbin .quo 3 false false (ε8 7) (ε8 8)) w Kp fun v10 w =>
  S P (vcall (Value.func (Fn.func 119) #[] #[]) #[v10]) w Kp fun v11 w =>
  K v11 w) fun k9 =>
  S P (vbin .eql 3 false true x0 (Value.int IntKind.i64 26)) w Kp fun v12 w =>
  C v12 (S P (vconv 41 3 x1) w Kp fun v13 w =>
  S P (vconv 41 3 x2) w Kp fun v14 w =>
  k9 (upd 0 x0 (upd 1 x1 (upd 2 x2 (upd 6 (Value.int IntKind.u16 0) (upd 7 v13 (upd 8 v14 (upd 15 x0 E0))))))) w)
  (S P (vbin .eql 3 false true x0 (Value.int IntKind.i64 24)) w Kp fun v15 w =>
  C v15 (k9 (upd 0 x0 (upd 1 x1 (upd 2 x2 (upd 6 (Value.int IntKind.u16 0) (upd 7 v2 (upd 8 v3 (upd 15 x0 E0))))))) w)
  (S P (vbin .eql 3 false true x0 (Value.int IntKind.i64 27)) w Kp fun v16 w =>
  C v16 (S P (vconv 41 3 x1) w Kp fun v17 w =>
  S P (vconv 41 3 x2) w Kp fun v18 w =>
  k5 (upd 0 x0 (upd 1 x1 (upd 2 x2 (upd 6 (Value.int IntKind.u16 0) (upd 7 v17 (upd 8 v18 (upd 15 x0 E0))))))) w)
  (k5 (upd 0 x0 (upd 1 x1 (upd 2 x2 (upd 6 (Value.int IntKind.u16 0) (upd 7 v2 (upd 8 v3 (upd 15 x0 E0))))))) w))))
theorem F124_eq (x0 x1 x2 : Value) (w : World) (Kp : KP) (K : K0) : F124 x0 x1 x2 w Kp K = wpE P [0, 1, 2, 6, 7, 8, 15] (bodyOf Tryz.f124) (postE P Tryz.f124.results.toList Kp K) (List.range 3 ++ [0, 1, 2, 6, 7, 8, 15]) (ε0 #[x0, x1, x2]) w := by kernel_rfl
theorem F124_calls {x0 x1 x2 : Value} {w : World} {Kp : KP} {K : K0} (h : F124 x0 x1 x2 w Kp K) : Calls P 124 #[x0, x1, x2] w (EndsS Kp K) :=
  calls_of follows [0, 1, 2, 6, 7, 8, 15] Tryz.func124 (by kernel_rfl) (by kernel_rfl) (by kernel_rfl) (F124_eq x0 x1 x2 w Kp K ▸ h)

/-- wisp/num.compared -/
def F125 (x0 x1 x2 : Value) (w : World) (Kp : KP) (K : K0) : Prop :=
  J (fun ε1 w => K (Value.tuple #[(Value.int IntKind.u16 0), (Value.bool false)]) w) fun k2 =>
  J (fun ε3 w => S P (vbin .lss 41 false false (ε3 1) (ε3 2)) w Kp fun v5 w =>
  S P (vcall (Value.func (Fn.func 121) #[] #[]) #[v5]) w Kp fun v6 w =>
  K (Value.tuple #[v6, (Value.bool true)]) w) fun k4 =>
  J (fun ε7 w => S P (vcall (Value.func (Fn.func 120) #[] #[]) #[(ε7 1)]) w Kp fun v9 w =>
  S P (vcall (Value.func (Fn.func 120) #[] #[]) #[(ε7 2)]) w Kp fun v10 w =>
  S P (vbin .lss 3 false false v9 v10) w Kp fun v11 w =>
  S P (vcall (Value.func (Fn.func 121) #[] #[]) #[v11]) w Kp fun v12 w =>
  K (Value.tuple #[v12, (Value.bool true)]) w) fun k8 =>
  S P (vbin .eql 3 false true x0 (Value.int IntKind.i64 42)) w Kp fun v13 w =>
  C v13 (S P (vbin .eql 41 false false x1 x2) w Kp fun v14 w =>
  S P (vcall (Value.func (Fn.func 121) #[] #[]) #[v14]) w Kp fun v15 w =>
  K (Value.tuple #[v15, (Value.bool true)]) w)
  (S P (vbin .eql 3 false true x0 (Value.int IntKind.i64 43)) w Kp fun v16 w =>
  C v16 (S P (vbin .neq 41 false false x1 x2) w Kp fun v17 w =>
  S P (vcall (Value.func (Fn.func 121) #[] #[]) #[v17]) w Kp fun v18 w =>
  K (Value.tuple #[v18, (Value.bool true)]) w)
  (S P (vbin .eql 3 false true x0 (Value.int IntKind.i64 45)) w Kp fun v19 w =>
  C v19 (k8 (upd 1 x2 (upd 2 x1 (upd 6 (Value.int IntKind.u16 0) (upd 7 (Value.bool false) (upd 8 x0 E0))))) w)
  (S P (vbin .eql 3 false true x0 (Value.int IntKind.i64 44)) w Kp fun v20 w =>
  C v20 (k8 (upd 1 x1 (upd 2 x2 (upd 6 (Value.int IntKind.u16 0) (upd 7 (Value.bool false) (upd 8 x0 E0))))) w)
  (S P (vbin .eql 3 false true x0 (Value.int IntKind.i64 47)) w Kp fun v21 w =>
  C v21 (k4 (upd 1 x2 (upd 2 x1 (upd 6 (Value.int IntKind.u16 0) (upd 7 (Value.bool false) (upd 8 x0 E0))))) w)
  (S P (vbin .eql 3 false true x0 (Value.int IntKind.i64 46)) w Kp fun v22 w =>
  C v22 (k4 (upd 1 x1 (upd 2 x2 (upd 6 (Value.int IntKind.u16 0) (upd 7 (Value.bool false) (upd 8 x0 E0))))) w)
  (S P (vbin .eql 3 false true x0 (Value.int IntKind.i64 31)) w Kp fun v23 w =>
  C v23 (S P (vcall (Value.func (Fn.func 120) #[] #[]) #[x2]) w Kp fun v24 w =>
  S P (vcall (Value.func (Fn.func 120) #[] #[]) #[x1]) w Kp fun v25 w =>
  S P (vbin .gtr 3 false false v24 v25) w Kp fun v26 w =>
  C v26 (K (Value.tuple #[x2, (Value.bool true)]) w)
  (K (Value.tuple #[x1, (Value.bool true)]) w))
  (S P (vbin .eql 3 false true x0 (Value.int IntKind.i64 30)) w Kp fun v27 w =>
  C v27 (S P (vcall (Value.func (Fn.func 120) #[] #[]) #[x2]) w Kp fun v28 w =>
  S P (vcall (Value.func (Fn.func 120) #[] #[]) #[x1]) w Kp fun v29 w =>
  S P (vbin .lss 3 false false v28 v29) w Kp fun v30 w =>
  C v30 (K (Value.tuple #[x2, (Value.bool true)]) w)
  (K (Value.tuple #[x1, (Value.bool true)]) w))
  (k2 (upd 1 x1 (upd 2 x2 (upd 6 (Value.int IntKind.u16 0) (upd 7 (Value.bool false) (upd 8 x0 E0))))) w))))))))
theorem F125_eq (x0 x1 x2 : Value) (w : World) (Kp : KP) (K : K0) : F125 x0 x1 x2 w Kp K = wpE P [1, 2, 6, 7, 8] (bodyOf Tryz.f125) (postE P Tryz.f125.results.toList Kp K) (List.range 3 ++ [1, 2, 6, 7, 8]) (ε0 #[x0, x1, x2]) w := by kernel_rfl
theorem F125_calls {x0 x1 x2 : Value} {w : World} {Kp : KP} {K : K0} (h : F125 x0 x1 x2 w Kp K) : Calls P 125 #[x0, x1, x2] w (EndsS Kp K) :=
  calls_of follows [1, 2, 6, 7, 8] Tryz.func125 (by kernel_rfl) (by kernel_rfl) (by kernel_rfl) (F125_eq x0 x1 x2 w Kp K ▸ h)

/-- wisp/prim.Of -/
def F14 (x0 : Value) (w : World) (Kp : KP) (K : K0) : Prop :=
  S P (valloc 43) w Kp fun v1 w =>
  S P (vbin .lss 3 false true x0 (Value.int IntKind.i64 1)) w Kp fun v2 w =>
  GS v2 false P (vmove x0) w Kp fun v3 w =>
  GS v2 false P (vbin .geq 3 false true v3 (Value.int IntKind.i64 64)) w Kp fun v4 w =>
  S P (vpick v2 (Value.bool true) v4) w Kp fun v5 w =>
  C v5 (S P (vbuild 43 #[]) w Kp fun v6 w =>
  S P (vstore 43 v1 v6) w Kp fun v7 w =>
  RC P 43 v1 w fun r8 => K (Value.tuple #[r8, (Value.int IntKind.i64 60)]) w)
  (S P (vcall (Value.func (Fn.func 52) #[] #[]) #[x0]) w Kp fun v9 w =>
  S P (vstore 43 v1 v9) w Kp fun v10 w =>
  RC P 43 v1 w fun r11 => K (Value.tuple #[r11, (Value.int IntKind.i64 0)]) w)
theorem F14_eq (x0 : Value) (w : World) (Kp : KP) (K : K0) : F14 x0 w Kp K = wpE P [0, 2, 3] (bodyOf Tryz.f14) (postE P Tryz.f14.results.toList Kp K) (List.range 1 ++ [0, 2, 3]) (ε0 #[x0]) w := by kernel_rfl
theorem F14_calls {x0 : Value} {w : World} {Kp : KP} {K : K0} (h : F14 x0 w Kp K) : Calls P 14 #[x0] w (EndsS Kp K) :=
  calls_of follows [0, 2, 3] Tryz.func14 (by kernel_rfl) (by kernel_rfl) (by kernel_rfl) (F14_eq x0 w Kp K ▸ h)

/-- wisp/wisplaw06.same -/
def F34 (x0 x1 : Value) (w : World) (Kp : KP) (K : K0) : Prop :=
  S P (vbox 43 x0) w Kp fun v1 w =>
  S P (vbox 43 x1) w Kp fun v2 w =>
  S P (vload 43 v1) w Kp fun v3 w =>
  S P (vload 43 v2) w Kp fun v4 w =>
  S P (vbin .eql 43 false false v3 v4) w Kp fun v5 w =>
  K v5 w
theorem F34_eq (x0 x1 : Value) (w : World) (Kp : KP) (K : K0) : F34 x0 x1 w Kp K = wpE P [4] (bodyOf Tryz.f34) (postE P Tryz.f34.results.toList Kp K) (List.range 2 ++ [4]) (ε0 #[x0, x1]) w := by kernel_rfl
theorem F34_calls {x0 x1 : Value} {w : World} {Kp : KP} {K : K0} (h : F34 x0 x1 w Kp K) : Calls P 34 #[x0, x1] w (EndsS Kp K) :=
  calls_of follows [4] Tryz.func34 (by kernel_rfl) (by kernel_rfl) (by kernel_rfl) (F34_eq x0 x1 w Kp K ▸ h)

/-- wisp/prim.All -/
def F60 (w : World) (Kp : KP) (K : K0) : Prop :=
  K (Value.func (Fn.func 86) #[] #[]) w
theorem F60_eq (w : World) (Kp : KP) (K : K0) : F60  w Kp K = wpE P [0] (bodyOf Tryz.f60) (postE P Tryz.f60.results.toList Kp K) (List.range 0 ++ [0]) (ε0 #[]) w := by kernel_rfl
theorem F60_calls {w : World} {Kp : KP} {K : K0} (h : F60  w Kp K) : Calls P 60 #[] w (EndsS Kp K) :=
  calls_of follows [0] Tryz.func60 (by kernel_rfl) (by kernel_rfl) (by kernel_rfl) (F60_eq  w Kp K ▸ h)

/-- wisp/wispref06.Plain -/
def F63 (x0 : Value) (w : World) (Kp : KP) (K : K0) : Prop :=
  S P (vbin .eql 3 false true x0 (Value.int IntKind.i64 6)) w Kp fun v1 w =>
  GS v1 false P (vmove x0) w Kp fun v2 w =>
  GS v1 false P (vbin .eql 3 false true v2 (Value.int IntKind.i64 9)) w Kp fun v3 w =>
  S P (vpick v1 (Value.bool true) v3) w Kp fun v4 w =>
  GS v4 false P (vmove x0) w Kp fun v5 w =>
  GS v4 false P (vbin .geq 3 false true v5 (Value.int IntKind.i64 12)) w Kp fun v6 w =>
  GS v4 false P (vmove v6) w Kp fun v7 w =>
  GS v7 true P (vmove x0) w Kp fun v8 w =>
  GS v7 true P (vbin .leq 3 false true v8 (Value.int IntKind.i64 63)) w Kp fun v9 w =>
  GS v4 false P (vpick v7 v9 (Value.bool false)) w Kp fun v10 w =>
  S P (vpick v4 (Value.bool true) v10) w Kp fun v11 w =>
  K v11 w
theorem F63_eq (x0 : Value) (w : World) (Kp : KP) (K : K0) : F63 x0 w Kp K = wpE P [2] (bodyOf Tryz.f63) (postE P Tryz.f63.results.toList Kp K) (List.range 1 ++ [2]) (ε0 #[x0]) w := by kernel_rfl
theorem F63_calls {x0 : Value} {w : World} {Kp : KP} {K : K0} (h : F63 x0 w Kp K) : Calls P 63 #[x0] w (EndsS Kp K) :=
  calls_of follows [2] Tryz.func63 (by kernel_rfl) (by kernel_rfl) (by kernel_rfl) (F63_eq x0 w Kp K ▸ h)

/-- wisp/wispref06.May -/
def F64 (x0 x1 x2 : Value) (w : World) (Kp : KP) (K : K0) : Prop :=
  S P (vcall (Value.func (Fn.func 65) #[] #[]) #[x0]) w Kp fun v1 w =>
  S P (valloc 43) w Kp fun v2 w =>
  S P (vstore 43 v2 v1) w Kp fun v3 w =>
  S P (vfield 43 v2 2) w Kp fun v4 w =>
  S P (vload 3 v4) w Kp fun v5 w =>
  S P (vfield 43 v2 3) w Kp fun v6 w =>
  S P (vload 3 v6) w Kp fun v7 w =>
  S P (vcall (Value.func (Fn.func 87) #[] #[]) #[x1, v5, v7]) w Kp fun v8 w =>
  S P (vbin .neq 3 false true v8 (Value.int IntKind.i64 0)) w Kp fun v9 w =>
  C v9 (K v8 w)
  (S P (vcall (Value.func (Fn.func 88) #[] #[]) #[x0, x2]) w Kp fun v10 w =>
  S P (vext v10 0) w Kp fun v11 w =>
  S P (vext v10 1) w Kp fun v12 w =>
  S P (vbin .neq 3 false true v12 (Value.int IntKind.i64 0)) w Kp fun v13 w =>
  C v13 (K v12 w)
  (S P (vnil x2) w Kp fun v14 w =>
  S P (vfield 87 v14 0) w Kp fun v15 w =>
  S P (vload 23 v15) w Kp fun v16 w =>
  S P (vblt .len #[23] 3 #[false] #[v16]) w Kp fun v17 w =>
  S P (vbin .eql 3 false true x0 (Value.int IntKind.i64 55)) w Kp fun v18 w =>
  GS v18 true P (vmove v17) w Kp fun v19 w =>
  GS v18 true P (vbin .geq 3 false true v19 (Value.int IntKind.i64 128)) w Kp fun v20 w =>
  S P (vpick v18 v20 (Value.bool false)) w Kp fun v21 w =>
  GS v21 false P (vmove x0) w Kp fun v22 w =>
  GS v21 false P (vbin .eql 3 false true v22 (Value.int IntKind.i64 6)) w Kp fun v23 w =>
  GS v21 false P (vmove v23) w Kp fun v24 w =>
  GS v24 true P (vmove v17) w Kp fun v25 w =>
  GS v24 true P (vbin .gtr 3 false true v25 (Value.int IntKind.i64 126)) w Kp fun v26 w =>
  GS v21 false P (vpick v24 v26 (Value.bool false)) w Kp fun v27 w =>
  S P (vpick v21 (Value.bool true) v27) w Kp fun v28 w =>
  C v28 (K (Value.int IntKind.i64 4) w)
  (K (Value.int IntKind.i64 0) w)))
theorem F64_eq (x0 x1 x2 : Value) (w : World) (Kp : KP) (K : K0) : F64 x0 x1 x2 w Kp K = wpE P [0, 2, 6] (bodyOf Tryz.f64) (postE P Tryz.f64.results.toList Kp K) (List.range 3 ++ [0, 2, 6]) (ε0 #[x0, x1, x2]) w := by kernel_rfl
theorem F64_calls {x0 x1 x2 : Value} {w : World} {Kp : KP} {K : K0} (h : F64 x0 x1 x2 w Kp K) : Calls P 64 #[x0, x1, x2] w (EndsS Kp K) :=
  calls_of follows [0, 2, 6] Tryz.func64 (by kernel_rfl) (by kernel_rfl) (by kernel_rfl) (F64_eq x0 x1 x2 w Kp K ▸ h)

/-- wisp/wispref06.row -/
def F65 (x0 : Value) (w : World) (Kp : KP) (K : K0) : Prop :=
  S P (valloc 43) w Kp fun v1 w =>
  S P (vbin .lss 3 false true x0 (Value.int IntKind.i64 21)) w Kp fun v2 w =>
  C v2 (S P (vcall (Value.func (Fn.func 89) #[] #[]) #[x0]) w Kp fun v3 w =>
  S P (vstore 43 v1 v3) w Kp fun v4 w =>
  RC P 43 v1 w fun r5 => K r5 w)
  (S P (vbin .lss 3 false true x0 (Value.int IntKind.i64 42)) w Kp fun v6 w =>
  C v6 (S P (vcall (Value.func (Fn.func 90) #[] #[]) #[x0]) w Kp fun v7 w =>
  S P (vstore 43 v1 v7) w Kp fun v8 w =>
  RC P 43 v1 w fun r9 => K r9 w)
  (S P (vcall (Value.func (Fn.func 91) #[] #[]) #[x0]) w Kp fun v10 w =>
  S P (vstore 43 v1 v10) w Kp fun v11 w =>
  RC P 43 v1 w fun r12 => K r12 w))
theorem F65_eq (x0 : Value) (w : World) (Kp : KP) (K : K0) : F65 x0 w Kp K = wpE P [0, 2] (bodyOf Tryz.f65) (postE P Tryz.f65.results.toList Kp K) (List.range 1 ++ [0, 2]) (ε0 #[x0]) w := by kernel_rfl
theorem F65_calls {x0 : Value} {w : World} {Kp : KP} {K : K0} (h : F65 x0 w Kp K) : Calls P 65 #[x0] w (EndsS Kp K) :=
  calls_of follows [0, 2] Tryz.func65 (by kernel_rfl) (by kernel_rfl) (by kernel_rfl) (F65_eq x0 w Kp K ▸ h)

/-- wisp/wispref06.shuffles -/
def F66 (x0 x1 : Value) (w : World) (Kp : KP) (K : K0) : Prop :=
  S P (vbin .eql 3 false true x0 (Value.int IntKind.i64 12)) w Kp fun v1 w =>
  C v1 (∃ H2 : World → Prop, H2 (drewW w) ∧
  Fl P H2 (vixA 22 x1 (Value.int IntKind.i64 0)) fun v3 =>
  Fl P H2 (vload 41 v3) fun v4 =>
  Fl P H2 (vixA 22 x1 (Value.int IntKind.i64 0)) fun v5 =>
  Fl P H2 (vload 41 v5) fun v6 =>
  S P (vbuildS 22 2 #[(0, v4), (1, v6)]) (drewW w) Kp fun v7 w =>
  ∃ H8 : World → Prop, H8 w ∧
  K v7 w)
  (S P (vbin .eql 3 false true x0 (Value.int IntKind.i64 14)) w Kp fun v9 w =>
  C v9 (∃ H10 : World → Prop, H10 (drewW w) ∧
  Fl P H10 (vixA 22 x1 (Value.int IntKind.i64 1)) fun v11 =>
  Fl P H10 (vload 41 v11) fun v12 =>
  Fl P H10 (vixA 22 x1 (Value.int IntKind.i64 0)) fun v13 =>
  Fl P H10 (vload 41 v13) fun v14 =>
  S P (vbuildS 22 2 #[(0, v12), (1, v14)]) (drewW w) Kp fun v15 w =>
  ∃ H16 : World → Prop, H16 w ∧
  K v15 w)
  (S P (vbin .eql 3 false true x0 (Value.int IntKind.i64 15)) w Kp fun v17 w =>
  C v17 (∃ H18 : World → Prop, H18 (drewW w) ∧
  Fl P H18 (vixA 22 x1 (Value.int IntKind.i64 0)) fun v19 =>
  Fl P H18 (vload 41 v19) fun v20 =>
  Fl P H18 (vixA 22 x1 (Value.int IntKind.i64 1)) fun v21 =>
  Fl P H18 (vload 41 v21) fun v22 =>
  Fl P H18 (vixA 22 x1 (Value.int IntKind.i64 0)) fun v23 =>
  Fl P H18 (vload 41 v23) fun v24 =>
  S P (vbuildS 22 3 #[(0, v20), (1, v22), (2, v24)]) (drewW w) Kp fun v25 w =>
  ∃ H26 : World → Prop, H26 w ∧
  K v25 w)
  (S P (vbin .eql 3 false true x0 (Value.int IntKind.i64 16)) w Kp fun v27 w =>
  C v27 (∃ H28 : World → Prop, H28 (drewW w) ∧
  Fl P H28 (vixA 22 x1 (Value.int IntKind.i64 1)) fun v29 =>
  Fl P H28 (vload 41 v29) fun v30 =>
  Fl P H28 (vixA 22 x1 (Value.int IntKind.i64 2)) fun v31 =>
  Fl P H28 (vload 41 v31) fun v32 =>
  Fl P H28 (vixA 22 x1 (Value.int IntKind.i64 0)) fun v33 =>
  Fl P H28 (vload 41 v33) fun v34 =>
  S P (vbuildS 22 3 #[(0, v30), (1, v32), (2, v34)]) (drewW w) Kp fun v35 w =>
  ∃ H36 : World → Prop, H36 w ∧
  K v35 w)
  (S P (vbin .eql 3 false true x0 (Value.int IntKind.i64 17)) w Kp fun v37 w =>
  C v37 (S P (vixA 22 x1 (Value.int IntKind.i64 1)) w Kp fun v38 w =>
  S P (vload 41 v38) w Kp fun v39 w =>
  S P (vbuildS 22 1 #[(0, v39)]) w Kp fun v40 w =>
  K v40 w)
  (S P (vbin .eql 3 false true x0 (Value.int IntKind.i64 18)) w Kp fun v41 w =>
  C v41 (∃ H42 : World → Prop, H42 (drewW w) ∧
  Fl P H42 (vixA 22 x1 (Value.int IntKind.i64 1)) fun v43 =>
  Fl P H42 (vload 41 v43) fun v44 =>
  Fl P H42 (vixA 22 x1 (Value.int IntKind.i64 0)) fun v45 =>
  Fl P H42 (vload 41 v45) fun v46 =>
  Fl P H42 (vixA 22 x1 (Value.int IntKind.i64 1)) fun v47 =>
  Fl P H42 (vload 41 v47) fun v48 =>
  S P (vbuildS 22 3 #[(0, v44), (1, v46), (2, v48)]) (drewW w) Kp fun v49 w =>
  ∃ H50 : World → Prop, H50 w ∧
  K v49 w)
  (S P (vbin .eql 3 false true x0 (Value.int IntKind.i64 19)) w Kp fun v51 w =>
  C v51 (∃ H52 : World → Prop, H52 (drewW w) ∧
  Fl P H52 (vixA 22 x1 (Value.int IntKind.i64 0)) fun v53 =>
  Fl P H52 (vload 41 v53) fun v54 =>
  Fl P H52 (vixA 22 x1 (Value.int IntKind.i64 1)) fun v55 =>
  Fl P H52 (vload 41 v55) fun v56 =>
  Fl P H52 (vixA 22 x1 (Value.int IntKind.i64 0)) fun v57 =>
  Fl P H52 (vload 41 v57) fun v58 =>
  Fl P H52 (vixA 22 x1 (Value.int IntKind.i64 1)) fun v59 =>
  Fl P H52 (vload 41 v59) fun v60 =>
  S P (vbuildS 22 4 #[(0, v54), (1, v56), (2, v58), (3, v60)]) (drewW w) Kp fun v61 w =>
  ∃ H62 : World → Prop, H62 w ∧
  K v61 w)
  (K (Value.slice none 0 0) w)))))))
theorem F66_eq (x0 x1 : Value) (w : World) (Kp : KP) (K : K0) : F66 x0 x1 w Kp K = wpE P [4] (bodyOf Tryz.f66) (postE P Tryz.f66.results.toList Kp K) (List.range 2 ++ [4]) (ε0 #[x0, x1]) w := by kernel_rfl
theorem F66_calls {x0 x1 : Value} {w : World} {Kp : KP} {K : K0} (h : F66 x0 x1 w Kp K) : Calls P 66 #[x0, x1] w (EndsS Kp K) :=
  calls_of follows [4] Tryz.func66 (by kernel_rfl) (by kernel_rfl) (by kernel_rfl) (F66_eq x0 x1 w Kp K ▸ h)

/-- wisp/wispref06.returns -/
def F67 (x0 x1 x2 : Value) (w : World) (Kp : KP) (K : K0) : Prop :=
  S P (vcall (Value.func (Fn.func 88) #[] #[]) #[x0, x2]) w Kp fun v1 w =>
  S P (vext v1 0) w Kp fun v2 w =>
  S P (vext v1 1) w Kp fun v3 w =>
  J (fun ε4 w => S P (vbuildS 22 1 #[(0, (ε4 7))]) w Kp fun v6 w =>
  K v6 w) fun k5 =>
  S P (vbin .eql 3 false true x0 (Value.int IntKind.i64 6)) w Kp fun v7 w =>
  C v7 (∃ H8 : World → Prop, H8 (drewW w) ∧
  Fl P H8 (vixA 22 x1 (Value.int IntKind.i64 0)) fun v9 =>
  Fl P H8 (vload 41 v9) fun v10 =>
  Fl P H8 (vbuild 75 #[(0, (Value.int IntKind.i64 2)), (1, v10)]) fun v11 =>
  Fl P H8 (vixA 22 x1 (Value.int IntKind.i64 1)) fun v12 =>
  Fl P H8 (vload 41 v12) fun v13 =>
  Fl P H8 (vbuild 75 #[(0, (Value.int IntKind.i64 3)), (1, v13)]) fun v14 =>
  S P (vbuildS 23 2 #[(0, v11), (1, v14)]) (drewW w) Kp fun v15 w =>
  H8 w ∧ S P (vcall (Value.func (Fn.func 29) #[] #[]) #[x2, v15]) w Kp fun v16 w =>
  H8 w ∧ K (Value.slice none 0 0) w)
  (S P (vbin .eql 3 false true x0 (Value.int IntKind.i64 55)) w Kp fun v17 w =>
  C v17 (S P (vixA 22 x1 (Value.int IntKind.i64 0)) w Kp fun v18 w =>
  S P (vload 41 v18) w Kp fun v19 w =>
  S P (vbuild 75 #[(0, (Value.int IntKind.i64 4)), (1, v19)]) w Kp fun v20 w =>
  S P (vbuildS 23 1 #[(0, v20)]) w Kp fun v21 w =>
  S P (vcall (Value.func (Fn.func 29) #[] #[]) #[x2, v21]) w Kp fun v22 w =>
  K (Value.slice none 0 0) w)
  (S P (vbin .eql 3 false true x0 (Value.int IntKind.i64 56)) w Kp fun v23 w =>
  C v23 (S P (vcall (Value.func (Fn.func 92) #[] #[]) #[x2, (Value.int IntKind.i64 4)]) w Kp fun v24 w =>
  k5 (upd 6 (Value.slice none 0 0) (upd 7 v2 E0)) w)
  (k5 (upd 6 (Value.slice none 0 0) (upd 7 v2 E0)) w)))
theorem F67_eq (x0 x1 x2 : Value) (w : World) (Kp : KP) (K : K0) : F67 x0 x1 x2 w Kp K = wpE P [6, 7] (bodyOf Tryz.f67) (postE P Tryz.f67.results.toList Kp K) (List.range 3 ++ [6, 7]) (ε0 #[x0, x1, x2]) w := by kernel_rfl
theorem F67_calls {x0 x1 x2 : Value} {w : World} {Kp : KP} {K : K0} (h : F67 x0 x1 x2 w Kp K) : Calls P 67 #[x0, x1, x2] w (EndsS Kp K) :=
  calls_of follows [6, 7] Tryz.func67 (by kernel_rfl) (by kernel_rfl) (by kernel_rfl) (F67_eq x0 x1 x2 w Kp K ▸ h)

/-- wisp/wispref06.memory -/
def F68 (x0 x1 x2 : Value) (w : World) (Kp : KP) (K : K0) : Prop :=
  J (fun ε1 w => K (Value.slice none 0 0) w) fun k2 =>
  S P (vbin .eql 3 false true x0 (Value.int IntKind.i64 50)) w Kp fun v3 w =>
  C v3 (S P (vixA 22 x1 (Value.int IntKind.i64 0)) w Kp fun v4 w =>
  S P (vload 41 v4) w Kp fun v5 w =>
  S P (vcall (Value.func (Fn.func 72) #[] #[]) #[x2, v5]) w Kp fun v6 w =>
  S P (vbuildS 22 1 #[(0, v6)]) w Kp fun v7 w =>
  K v7 w)
  (S P (vbin .eql 3 false true x0 (Value.int IntKind.i64 51)) w Kp fun v8 w =>
  C v8 (∃ H9 : World → Prop, H9 (drewW w) ∧
  Fl P H9 (vixA 22 x1 (Value.int IntKind.i64 1)) fun v10 =>
  Fl P H9 (vload 41 v10) fun v11 =>
  Fl P H9 (vixA 22 x1 (Value.int IntKind.i64 0)) fun v12 =>
  Fl P H9 (vload 41 v12) fun v13 =>
  S P (vcall (Value.func (Fn.func 93) #[] #[]) #[x2, v11, v13]) (drewW w) Kp fun v14 w =>
  k2 (upd 6 (Value.slice none 0 0) E0) w)
  (S P (vbin .eql 3 false true x0 (Value.int IntKind.i64 52)) w Kp fun v15 w =>
  C v15 (S P (vixA 22 x1 (Value.int IntKind.i64 0)) w Kp fun v16 w =>
  S P (vload 41 v16) w Kp fun v17 w =>
  S P (vcall (Value.func (Fn.func 94) #[] #[]) #[x2, v17]) w Kp fun v18 w =>
  S P (vconv 5 41 v18) w Kp fun v19 w =>
  S P (vbuildS 22 1 #[(0, v19)]) w Kp fun v20 w =>
  K v20 w)
  (S P (vbin .eql 3 false true x0 (Value.int IntKind.i64 53)) w Kp fun v21 w =>
  C v21 (∃ H22 : World → Prop, H22 (drewW w) ∧
  Fl P H22 (vixA 22 x1 (Value.int IntKind.i64 1)) fun v23 =>
  Fl P H22 (vload 41 v23) fun v24 =>
  Fl P H22 (vixA 22 x1 (Value.int IntKind.i64 0)) fun v25 =>
  Fl P H22 (vload 41 v25) fun v26 =>
  Fl P H22 (vconv 41 5 v26) fun v27 =>
  S P (vcall (Value.func (Fn.func 30) #[] #[]) #[x2, v24, v27]) (drewW w) Kp fun v28 w =>
  H22 w ∧ k2 (upd 6 (Value.slice none 0 0) E0) w)
  (S P (vbin .eql 3 false true x0 (Value.int IntKind.i64 54)) w Kp fun v29 w =>
  C v29 (∃ H30 : World → Prop, H30 (drewW w) ∧
  Fl P H30 (vixA 22 x1 (Value.int IntKind.i64 1)) fun v31 =>
  Fl P H30 (vload 41 v31) fun v32 =>
  Fl P H30 (vixA 22 x1 (Value.int IntKind.i64 1)) fun v33 =>
  Fl P H30 (vload 41 v33) fun v34 =>
  Fl P H30 (vixA 22 x1 (Value.int IntKind.i64 0)) fun v35 =>
  Fl P H30 (vload 41 v35) fun v36 =>
  S P (vcall (Value.func (Fn.func 72) #[] #[]) #[x2, v34]) (drewW w) Kp fun v37 w =>
  H30 w ∧ Fl P H30 (vbin .add 41 false false v37 v36) fun v38 =>
  S P (vcall (Value.func (Fn.func 93) #[] #[]) #[x2, v32, v38]) w Kp fun v39 w =>
  H30 w ∧ k2 (upd 6 (Value.slice none 0 0) E0) w)
  (S P (vbin .eql 3 false true x0 (Value.int IntKind.i64 60)) w Kp fun v40 w =>
  C v40 (∃ H41 : World → Prop, H41 (drewW w) ∧
  Fl P H41 (vixA 22 x1 (Value.int IntKind.i64 0)) fun v42 =>
  Fl P H41 (vload 41 v42) fun v43 =>
  Fl P H41 (vixA 22 x1 (Value.int IntKind.i64 1)) fun v44 =>
  Fl P H41 (vload 41 v44) fun v45 =>
  Fl P H41 (vixA 22 x1 (Value.int IntKind.i64 2)) fun v46 =>
  Fl P H41 (vload 41 v46) fun v47 =>
  S P (vcall (Value.func (Fn.func 95) #[] #[]) #[x2, v43, v45, v47]) (drewW w) Kp fun v48 w =>
  k2 (upd 6 (Value.slice none 0 0) E0) w)
  (S P (vbin .eql 3 false true x0 (Value.int IntKind.i64 61)) w Kp fun v49 w =>
  C v49 (S P (vnil x2) w Kp fun v50 w =>
  S P (vfield 69 v50 4) w Kp fun v51 w =>
  S P (vload 5 v51) w Kp fun v52 w =>
  S P (vconv 5 41 v52) w Kp fun v53 w =>
  S P (vbuildS 22 1 #[(0, v53)]) w Kp fun v54 w =>
  K v54 w)
  (S P (vbin .eql 3 false true x0 (Value.int IntKind.i64 62)) w Kp fun v55 w =>
  C v55 (∃ H56 : World → Prop, H56 (drewW w) ∧
  Fl P H56 (vixA 22 x1 (Value.int IntKind.i64 0)) fun v57 =>
  Fl P H56 (vload 41 v57) fun v58 =>
  Fl P H56 (vixA 22 x1 (Value.int IntKind.i64 1)) fun v59 =>
  Fl P H56 (vload 41 v59) fun v60 =>
  Fl P H56 (vconv 41 5 v60) fun v61 =>
  S P (vcall (Value.func (Fn.func 96) #[] #[]) #[x2, v58, v61]) (drewW w) Kp fun v62 w =>
  H56 w ∧ k2 (upd 6 (Value.slice none 0 0) E0) w)
  (S P (vbin .eql 3 false true x0 (Value.int IntKind.i64 63)) w Kp fun v63 w =>
  C v63 (S P (vixA 22 x1 (Value.int IntKind.i64 0)) w Kp fun v64 w =>
  S P (vload 41 v64) w Kp fun v65 w =>
  S P (vcall (Value.func (Fn.func 97) #[] #[]) #[x2, v65]) w Kp fun v66 w =>
  k2 (upd 6 (Value.slice none 0 0) E0) w)
  (k2 (upd 6 (Value.slice none 0 0) E0) w)))))))))
theorem F68_eq (x0 x1 x2 : Value) (w : World) (Kp : KP) (K : K0) : F68 x0 x1 x2 w Kp K = wpE P [6] (bodyOf Tryz.f68) (postE P Tryz.f68.results.toList Kp K) (List.range 3 ++ [6]) (ε0 #[x0, x1, x2]) w := by kernel_rfl
theorem F68_calls {x0 x1 x2 : Value} {w : World} {Kp : KP} {K : K0} (h : F68 x0 x1 x2 w Kp K) : Calls P 68 #[x0, x1, x2] w (EndsS Kp K) :=
  calls_of follows [6] Tryz.func68 (by kernel_rfl) (by kernel_rfl) (by kernel_rfl) (F68_eq x0 x1 x2 w Kp K ▸ h)

/-- wisp/wispref01.Unary -/
def F69 (x0 x1 : Value) (w : World) (Kp : KP) (K : K0) : Prop :=
  S P (vcall (Value.func (Fn.func 98) #[] #[]) #[x1]) w Kp fun v1 w =>
  S P (vbin .eql 3 false true x0 (Value.int IntKind.i64 28)) w Kp fun v2 w =>
  C v2 (S P (vconv 41 3 x1) w Kp fun v3 w =>
  S P (vun .neg v3) w Kp fun v4 w =>
  S P (vcall (Value.func (Fn.func 99) #[] #[]) #[v4]) w Kp fun v5 w =>
  K (Value.tuple #[v5, (Value.bool true)]) w)
  (S P (vbin .eql 3 false true x0 (Value.int IntKind.i64 29)) w Kp fun v6 w =>
  C v6 (S P (vbin .lss 3 false true v1 (Value.int IntKind.i64 0)) w Kp fun v7 w =>
  C v7 (S P (vun .neg v1) w Kp fun v8 w =>
  S P (vcall (Value.func (Fn.func 99) #[] #[]) #[v8]) w Kp fun v9 w =>
  K (Value.tuple #[v9, (Value.bool true)]) w)
  (K (Value.tuple #[x1, (Value.bool true)]) w))
  (S P (vbin .eql 3 false true x0 (Value.int IntKind.i64 32)) w Kp fun v10 w =>
  C v10 (S P (vconv 41 3 x1) w Kp fun v11 w =>
  S P (vbin .add 3 false true v11 (Value.int IntKind.i64 1)) w Kp fun v12 w =>
  S P (vcall (Value.func (Fn.func 99) #[] #[]) #[v12]) w Kp fun v13 w =>
  K (Value.tuple #[v13, (Value.bool true)]) w)
  (S P (vbin .eql 3 false true x0 (Value.int IntKind.i64 33)) w Kp fun v14 w =>
  C v14 (S P (vconv 41 3 x1) w Kp fun v15 w =>
  S P (vbin .sub 3 false true v15 (Value.int IntKind.i64 1)) w Kp fun v16 w =>
  S P (vcall (Value.func (Fn.func 99) #[] #[]) #[v16]) w Kp fun v17 w =>
  K (Value.tuple #[v17, (Value.bool true)]) w)
  (S P (vbin .eql 3 false true x0 (Value.int IntKind.i64 34)) w Kp fun v18 w =>
  C v18 (S P (vconv 41 3 x1) w Kp fun v19 w =>
  S P (vbin .mul 3 true false (Value.int IntKind.i64 2) v19) w Kp fun v20 w =>
  S P (vcall (Value.func (Fn.func 99) #[] #[]) #[v20]) w Kp fun v21 w =>
  K (Value.tuple #[v21, (Value.bool true)]) w)
  (S P (vbin .eql 3 false true x0 (Value.int IntKind.i64 35)) w Kp fun v22 w =>
  C v22 (S P (vcall (Value.func (Fn.func 100) #[] #[]) #[v1]) w Kp fun v23 w =>
  S P (vcall (Value.func (Fn.func 99) #[] #[]) #[v23]) w Kp fun v24 w =>
  K (Value.tuple #[v24, (Value.bool true)]) w)
  (S P (vbin .eql 3 false true x0 (Value.int IntKind.i64 39)) w Kp fun v25 w =>
  C v25 (S P (vconv 41 3 x1) w Kp fun v26 w =>
  S P (vbin .sub 3 true false (Value.int IntKind.i64 65535) v26) w Kp fun v27 w =>
  S P (vcall (Value.func (Fn.func 99) #[] #[]) #[v27]) w Kp fun v28 w =>
  K (Value.tuple #[v28, (Value.bool true)]) w)
  (S P (vbin .eql 3 false true x0 (Value.int IntKind.i64 48)) w Kp fun v29 w =>
  C v29 (S P (vbin .eql 41 false true x1 (Value.int IntKind.u16 0)) w Kp fun v30 w =>
  S P (vcall (Value.func (Fn.func 101) #[] #[]) #[v30]) w Kp fun v31 w =>
  K (Value.tuple #[v31, (Value.bool true)]) w)
  (S P (vbin .eql 3 false true x0 (Value.int IntKind.i64 49)) w Kp fun v32 w =>
  C v32 (S P (vbin .lss 3 false true v1 (Value.int IntKind.i64 0)) w Kp fun v33 w =>
  S P (vcall (Value.func (Fn.func 101) #[] #[]) #[v33]) w Kp fun v34 w =>
  K (Value.tuple #[v34, (Value.bool true)]) w)
  (K (Value.tuple #[(Value.int IntKind.u16 0), (Value.bool false)]) w)))))))))
theorem F69_eq (x0 x1 : Value) (w : World) (Kp : KP) (K : K0) : F69 x0 x1 w Kp K = wpE P [1, 4, 5] (bodyOf Tryz.f69) (postE P Tryz.f69.results.toList Kp K) (List.range 2 ++ [1, 4, 5]) (ε0 #[x0, x1]) w := by kernel_rfl
theorem F69_calls {x0 x1 : Value} {w : World} {Kp : KP} {K : K0} (h : F69 x0 x1 w Kp K) : Calls P 69 #[x0, x1] w (EndsS Kp K) :=
  calls_of follows [1, 4, 5] Tryz.func69 (by kernel_rfl) (by kernel_rfl) (by kernel_rfl) (F69_eq x0 x1 w Kp K ▸ h)

/-- wisp/wispref01.Binary -/
def F70 (x0 x1 x2 : Value) (w : World) (Kp : KP) (K : K0) : Prop :=
  S P (vcall (Value.func (Fn.func 98) #[] #[]) #[x1]) w Kp fun v1 w =>
  S P (vcall (Value.func (Fn.func 98) #[] #[]) #[x2]) w Kp fun v2 w =>
  S P (vbin .eql 3 false true x0 (Value.int IntKind.i64 21)) w Kp fun v3 w =>
  C v3 (S P (vconv 41 3 x1) w Kp fun v4 w =>
  S P (vconv 41 3 x2) w Kp fun v5 w =>
  S P (vbin .add 3 false false v4 v5) w Kp fun v6 w =>
  S P (vcall (Value.func (Fn.func 99) #[] #[]) #[v6]) w Kp fun v7 w =>
  K (Value.tuple #[v7, (Value.bool true)]) w)
  (S P (vbin .eql 3 false true x0 (Value.int IntKind.i64 22)) w Kp fun v8 w =>
  C v8 (S P (vconv 41 3 x1) w Kp fun v9 w =>
  S P (vconv 41 3 x2) w Kp fun v10 w =>
  S P (vbin .sub 3 false false v9 v10) w Kp fun v11 w =>
  S P (vcall (Value.func (Fn.func 99) #[] #[]) #[v11]) w Kp fun v12 w =>
  K (Value.tuple #[v12, (Value.bool true)]) w)
  (S P (vbin .eql 3 false true x0 (Value.int IntKind.i64 23)) w Kp fun v13 w =>
  C v13 (S P (vconv 41 3 x1) w Kp fun v14 w =>
  S P (vconv 41 3 x2) w Kp fun v15 w =>
  S P (vbin .mul 3 false false v14 v15) w Kp fun v16 w =>
  S P (vcall (Value.func (Fn.func 99) #[] #[]) #[v16]) w Kp fun v17 w =>
  K (Value.tuple #[v17, (Value.bool true)]) w)
  (J (fun ε18 w => C (ε18 39) (S P (vbin .eql 41 false true (ε18 2) (Value.int IntKind.u16 0)) w Kp fun v20 w =>
  C v20 (K (Value.tuple #[(Value.int IntKind.u16 0), (Value.bool true)]) w)
  (S P (vcall (Value.func (Fn.func 102) #[] #[]) #[(ε18 0), (ε18 1), (ε18 2)]) w Kp fun v21 w =>
  K (Value.tuple #[v21, (Value.bool true)]) w))
  (S P (vbin .eql 3 false true (ε18 14) (Value.int IntKind.i64 30)) w Kp fun v22 w =>
  C v22 (S P (vblt .min #[3, 3] 3 #[false, false] #[(ε18 8), (ε18 9)]) w Kp fun v23 w =>
  S P (vcall (Value.func (Fn.func 99) #[] #[]) #[v23]) w Kp fun v24 w =>
  K (Value.tuple #[v24, (Value.bool true)]) w)
  (S P (vbin .eql 3 false true (ε18 14) (Value.int IntKind.i64 31)) w Kp fun v25 w =>
  C v25 (S P (vblt .max #[3, 3] 3 #[false, false] #[(ε18 8), (ε18 9)]) w Kp fun v26 w =>
  S P (vcall (Value.func (Fn.func 99) #[] #[]) #[v26]) w Kp fun v27 w =>
  K (Value.tuple #[v27, (Value.bool true)]) w)
  (J (fun ε28 w => C (ε28 62) (S P (vcall (Value.func (Fn.func 103) #[] #[]) #[(ε28 0), (ε28 1), (ε28 2)]) w Kp fun v30 w =>
  K (Value.tuple #[v30, (Value.bool true)]) w)
  (J (fun ε31 w => C (ε31 70) (S P (vbin .gtr 41 false true (ε31 2) (Value.int IntKind.u16 15)) w Kp fun v33 w =>
  C v33 (K (Value.tuple #[(Value.int IntKind.u16 0), (Value.bool true)]) w)
  (S P (vbin .eql 3 false true (ε31 0) (Value.int IntKind.i64 40)) w Kp fun v34 w =>
  C v34 (S P (vconv 41 3 (ε31 1)) w Kp fun v35 w =>
  S P (vconv 41 3 (ε31 2)) w Kp fun v36 w =>
  S P (vcall (Value.func (Fn.func 104) #[] #[]) #[v36]) w Kp fun v37 w =>
  S P (vbin .mul 3 false false v35 v37) w Kp fun v38 w =>
  S P (vcall (Value.func (Fn.func 99) #[] #[]) #[v38]) w Kp fun v39 w =>
  K (Value.tuple #[v39, (Value.bool true)]) w)
  (S P (vconv 41 3 (ε31 1)) w Kp fun v40 w =>
  S P (vconv 41 3 (ε31 2)) w Kp fun v41 w =>
  S P (vcall (Value.func (Fn.func 104) #[] #[]) #[v41]) w Kp fun v42 w =>
  S P (vbin .quo 3 false false v40 v42) w Kp fun v43 w =>
  S P (vcall (Value.func (Fn.func 99) #[] #[]) #[v43]) w Kp fun v44 w =>
  K (Value.tuple #[v44, (Value.bool true)]) w)))
  (S P (vbin .eql 3 false true (ε31 14) (Value.int IntKind.i64 42)) w Kp fun v45 w =>
  C v45 (S P (vbin .eql 41 false false (ε31 1) (ε31 2)) w Kp fun v46 w =>
  S P (vcall (Value.func (Fn.func 101) #[] #[]) #[v46]) w Kp fun v47 w =>
  K (Value.tuple #[v47, (Value.bool true)]) w)
  (S P (vbin .eql 3 false true (ε31 14) (Value.int IntKind.i64 43)) w Kp fun v48 w =>
  C v48 (S P (vbin .neq 41 false false (ε31 1) (ε31 2)) w Kp fun v49 w =>
  S P (vcall (Value.func (Fn.func 101) #[] #[]) #[v49]) w Kp fun v50 w =>
  K (Value.tuple #[v50, (Value.bool true)]) w)
  (S P (vbin .eql 3 false true (ε31 14) (Value.int IntKind.i64 44)) w Kp fun v51 w =>
  C v51 (S P (vbin .lss 3 false false (ε31 8) (ε31 9)) w Kp fun v52 w =>
  S P (vcall (Value.func (Fn.func 101) #[] #[]) #[v52]) w Kp fun v53 w =>
  K (Value.tuple #[v53, (Value.bool true)]) w)
  (S P (vbin .eql 3 false true (ε31 14) (Value.int IntKind.i64 45)) w Kp fun v54 w =>
  C v54 (S P (vbin .gtr 3 false false (ε31 8) (ε31 9)) w Kp fun v55 w =>
  S P (vcall (Value.func (Fn.func 101) #[] #[]) #[v55]) w Kp fun v56 w =>
  K (Value.tuple #[v56, (Value.bool true)]) w)
  (S P (vbin .eql 3 false true (ε31 14) (Value.int IntKind.i64 46)) w Kp fun v57 w =>
  C v57 (S P (vbin .lss 41 false false (ε31 1) (ε31 2)) w Kp fun v58 w =>
  S P (vcall (Value.func (Fn.func 101) #[] #[]) #[v58]) w Kp fun v59 w =>
  K (Value.tuple #[v59, (Value.bool true)]) w)
  (S P (vbin .eql 3 false true (ε31 14) (Value.int IntKind.i64 47)) w Kp fun v60 w =>
  C v60 (S P (vbin .gtr 41 false false (ε31 1) (ε31 2)) w Kp fun v61 w =>
  S P (vcall (Value.func (Fn.func 101) #[] #[]) #[v61]) w Kp fun v62 w =>
  K (Value.tuple #[v62, (Value.bool true)]) w)
  (K (Value.tuple #[(Value.int IntKind.u16 0), (Value.bool false)]) w)))))))) fun k32 =>
  S P (vbin .eql 3 false true (ε28 14) (Value.int IntKind.i64 40)) w Kp fun v63 w =>
  C v63 (k32 (upd 0 (ε28 0) (upd 1 (ε28 1) (upd 2 (ε28 2) (upd 6 (ε28 6) (upd 7 (ε28 7) (upd 8 (ε28 8) (upd 9 (ε28 9) (upd 14 (ε28 14) (upd 39 (ε28 39) (upd 62 (ε28 62) (upd 70 v63 E0))))))))))) w)
  (S P (vbin .eql 3 false true (ε28 14) (Value.int IntKind.i64 41)) w Kp fun v64 w =>
  k32 (upd 0 (ε28 0) (upd 1 (ε28 1) (upd 2 (ε28 2) (upd 6 (ε28 6) (upd 7 (ε28 7) (upd 8 (ε28 8) (upd 9 (ε28 9) (upd 14 (ε28 14) (upd 39 (ε28 39) (upd 62 (ε28 62) (upd 70 v64 E0))))))))))) w))) fun k29 =>
  S P (vbin .eql 3 false true (ε18 14) (Value.int IntKind.i64 36)) w Kp fun v65 w =>
  C v65 (k29 (upd 0 (ε18 0) (upd 1 (ε18 1) (upd 2 (ε18 2) (upd 6 (ε18 6) (upd 7 (ε18 7) (upd 8 (ε18 8) (upd 9 (ε18 9) (upd 14 (ε18 14) (upd 39 (ε18 39) (upd 62 v65 (upd 70 (ε18 70) E0))))))))))) w)
  (S P (vbin .eql 3 false true (ε18 14) (Value.int IntKind.i64 37)) w Kp fun v66 w =>
  C v66 (k29 (upd 0 (ε18 0) (upd 1 (ε18 1) (upd 2 (ε18 2) (upd 6 (ε18 6) (upd 7 (ε18 7) (upd 8 (ε18 8) (upd 9 (ε18 9) (upd 14 (ε18 14) (upd 39 (ε18 39) (upd 62 v66 (upd 70 (ε18 70) E0))))))))))) w)
  (S P (vbin .eql 3 false true (ε18 14) (Value.int IntKind.i64 38)) w Kp fun v67 w =>
  k29 (upd 0 (ε18 0) (upd 1 (ε18 1) (upd 2 (ε18 2) (upd 6 (ε18 6) (upd 7 (ε18 7) (upd 8 (ε18 8) (upd 9 (ε18 9) (upd 14 (ε18 14) (upd 39 (ε18 39) (upd 62 v67 (upd 70 (ε18 70) E0))))))))))) w)))))) fun k19 =>
  S P (vbin .eql 3 false true x0 (Value.int IntKind.i64 24)) w Kp fun v68 w =>
  C v68 (k19 (upd 0 x0 (upd 1 x1 (upd 2 x2 (upd 6 (Value.int IntKind.u16 0) (upd 7 (Value.bool false) (upd 8 v1 (upd 9 v2 (upd 14 x0 (upd 39 v68 (upd 62 undef (upd 70 undef E0))))))))))) w)
  (S P (vbin .eql 3 false true x0 (Value.int IntKind.i64 25)) w Kp fun v69 w =>
  C v69 (k19 (upd 0 x0 (upd 1 x1 (upd 2 x2 (upd 6 (Value.int IntKind.u16 0) (upd 7 (Value.bool false) (upd 8 v1 (upd 9 v2 (upd 14 x0 (upd 39 v69 (upd 62 undef (upd 70 undef E0))))))))))) w)
  (S P (vbin .eql 3 false true x0 (Value.int IntKind.i64 26)) w Kp fun v70 w =>
  C v70 (k19 (upd 0 x0 (upd 1 x1 (upd 2 x2 (upd 6 (Value.int IntKind.u16 0) (upd 7 (Value.bool false) (upd 8 v1 (upd 9 v2 (upd 14 x0 (upd 39 v70 (upd 62 undef (upd 70 undef E0))))))))))) w)
  (S P (vbin .eql 3 false true x0 (Value.int IntKind.i64 27)) w Kp fun v71 w =>
  k19 (upd 0 x0 (upd 1 x1 (upd 2 x2 (upd 6 (Value.int IntKind.u16 0) (upd 7 (Value.bool false) (upd 8 v1 (upd 9 v2 (upd 14 x0 (upd 39 v71 (upd 62 undef (upd 70 undef E0))))))))))) w))))))
theorem F70_eq (x0 x1 x2 : Value) (w : World) (Kp : KP) (K : K0) : F70 x0 x1 x2 w Kp K = wpE P [0, 1, 2, 6, 7, 8, 9, 14, 39, 62, 70] (bodyOf Tryz.f70) (postE P Tryz.f70.results.toList Kp K) (List.range 3 ++ [0, 1, 2, 6, 7, 8, 9, 14, 39, 62, 70]) (ε0 #[x0, x1, x2]) w := by kernel_rfl
theorem F70_calls {x0 x1 x2 : Value} {w : World} {Kp : KP} {K : K0} (h : F70 x0 x1 x2 w Kp K) : Calls P 70 #[x0, x1, x2] w (EndsS Kp K) :=
  calls_of follows [0, 1, 2, 6, 7, 8, 9, 14, 39, 62, 70] Tryz.func70 (by kernel_rfl) (by kernel_rfl) (by kernel_rfl) (F70_eq x0 x1 x2 w Kp K ▸ h)

/-- wisp/wispref06.looks -/
def F88 (x0 x1 : Value) (w : World) (Kp : KP) (K : K0) : Prop :=
  J (fun ε1 w => C (ε1 7) (S P (vcall (Value.func (Fn.func 117) #[] #[]) #[(ε1 1), (Value.int IntKind.i64 0), (Value.int IntKind.i64 4)]) w Kp fun v3 w =>
  S P (vext v3 0) w Kp fun v4 w =>
  S P (vext v3 1) w Kp fun v5 w =>
  K (Value.tuple #[v4, v5]) w)
  (S P (vbin .eql 3 false true (ε1 6) (Value.int IntKind.i64 58)) w Kp fun v6 w =>
  C v6 (S P (vcall (Value.func (Fn.func 117) #[] #[]) #[(ε1 1), (Value.int IntKind.i64 0), (Value.int IntKind.i64 3)]) w Kp fun v7 w =>
  S P (vext v7 0) w Kp fun v8 w =>
  S P (vext v7 1) w Kp fun v9 w =>
  K (Value.tuple #[v8, v9]) w)
  (S P (vbin .eql 3 false true (ε1 6) (Value.int IntKind.i64 59)) w Kp fun v10 w =>
  C v10 (S P (vcall (Value.func (Fn.func 117) #[] #[]) #[(ε1 1), (Value.int IntKind.i64 2), (Value.int IntKind.i64 3)]) w Kp fun v11 w =>
  S P (vext v11 0) w Kp fun v12 w =>
  S P (vext v11 1) w Kp fun v13 w =>
  K (Value.tuple #[v12, v13]) w)
  (K (Value.tuple #[(Value.int IntKind.u16 0), (Value.int IntKind.i64 0)]) w)))) fun k2 =>
  S P (vbin .eql 3 false true x0 (Value.int IntKind.i64 56)) w Kp fun v14 w =>
  C v14 (k2 (upd 1 x1 (upd 4 (Value.int IntKind.u16 0) (upd 5 (Value.int IntKind.i64 0) (upd 6 x0 (upd 7 v14 E0))))) w)
  (S P (vbin .eql 3 false true x0 (Value.int IntKind.i64 57)) w Kp fun v15 w =>
  k2 (upd 1 x1 (upd 4 (Value.int IntKind.u16 0) (upd 5 (Value.int IntKind.i64 0) (upd 6 x0 (upd 7 v15 E0))))) w)
theorem F88_eq (x0 x1 : Value) (w : World) (Kp : KP) (K : K0) : F88 x0 x1 w Kp K = wpE P [1, 4, 5, 6, 7] (bodyOf Tryz.f88) (postE P Tryz.f88.results.toList Kp K) (List.range 2 ++ [1, 4, 5, 6, 7]) (ε0 #[x0, x1]) w := by kernel_rfl
theorem F88_calls {x0 x1 : Value} {w : World} {Kp : KP} {K : K0} (h : F88 x0 x1 w Kp K) : Calls P 88 #[x0, x1] w (EndsS Kp K) :=
  calls_of follows [1, 4, 5, 6, 7] Tryz.func88 (by kernel_rfl) (by kernel_rfl) (by kernel_rfl) (F88_eq x0 x1 w Kp K ▸ h)

/-- wisp/wispref06.lower -/
def F89 (x0 : Value) (w : World) (Kp : KP) (K : K0) : Prop :=
  S P (valloc 43) w Kp fun v1 w =>
  S P (vbin .eql 3 false true x0 (Value.int IntKind.i64 1)) w Kp fun v2 w =>
  C v2 (S P (vbuild 43 #[(0, (Value.int IntKind.i64 1)), (4, (Value.int IntKind.i64 2))]) w Kp fun v3 w =>
  S P (vstore 43 v1 v3) w Kp fun v4 w =>
  RC P 43 v1 w fun r5 => K r5 w)
  (S P (vbin .eql 3 false true x0 (Value.int IntKind.i64 2)) w Kp fun v6 w =>
  C v6 (S P (vbuild 43 #[(0, (Value.int IntKind.i64 2)), (3, (Value.int IntKind.i64 1)), (4, (Value.int IntKind.i64 2))]) w Kp fun v7 w =>
  S P (vstore 43 v1 v7) w Kp fun v8 w =>
  RC P 43 v1 w fun r9 => K r9 w)
  (S P (vbin .eql 3 false true x0 (Value.int IntKind.i64 3)) w Kp fun v10 w =>
  C v10 (S P (vbuild 43 #[(0, (Value.int IntKind.i64 3)), (3, (Value.int IntKind.i64 1)), (4, (Value.int IntKind.i64 2)), (5, (Value.bool true))]) w Kp fun v11 w =>
  S P (vstore 43 v1 v11) w Kp fun v12 w =>
  RC P 43 v1 w fun r13 => K r13 w)
  (S P (vbin .eql 3 false true x0 (Value.int IntKind.i64 4)) w Kp fun v14 w =>
  C v14 (S P (vbuild 43 #[(0, (Value.int IntKind.i64 4)), (4, (Value.int IntKind.i64 2)), (5, (Value.bool true))]) w Kp fun v15 w =>
  S P (vstore 43 v1 v15) w Kp fun v16 w =>
  RC P 43 v1 w fun r17 => K r17 w)
  (S P (vbin .eql 3 false true x0 (Value.int IntKind.i64 5)) w Kp fun v18 w =>
  C v18 (S P (vbuild 43 #[(0, (Value.int IntKind.i64 5)), (2, (Value.int IntKind.i64 1)), (4, (Value.int IntKind.i64 2)), (5, (Value.bool true))]) w Kp fun v19 w =>
  S P (vstore 43 v1 v19) w Kp fun v20 w =>
  RC P 43 v1 w fun r21 => K r21 w)
  (S P (vbin .eql 3 false true x0 (Value.int IntKind.i64 6)) w Kp fun v22 w =>
  C v22 (S P (vbuild 43 #[(0, (Value.int IntKind.i64 6)), (2, (Value.int IntKind.i64 2)), (4, (Value.int IntKind.i64 3))]) w Kp fun v23 w =>
  S P (vstore 43 v1 v23) w Kp fun v24 w =>
  RC P 43 v1 w fun r25 => K r25 w)
  (S P (vbin .eql 3 false true x0 (Value.int IntKind.i64 7)) w Kp fun v26 w =>
  C v26 (S P (vbuild 43 #[(0, (Value.int IntKind.i64 7)), (4, (Value.int IntKind.i64 3)), (5, (Value.bool true))]) w Kp fun v27 w =>
  S P (vstore 43 v1 v27) w Kp fun v28 w =>
  RC P 43 v1 w fun r29 => K r29 w)
  (S P (vbin .eql 3 false true x0 (Value.int IntKind.i64 8)) w Kp fun v30 w =>
  C v30 (S P (vbuild 43 #[(0, (Value.int IntKind.i64 8)), (4, (Value.int IntKind.i64 2))]) w Kp fun v31 w =>
  S P (vstore 43 v1 v31) w Kp fun v32 w =>
  RC P 43 v1 w fun r33 => K r33 w)
  (S P (vbin .eql 3 false true x0 (Value.int IntKind.i64 9)) w Kp fun v34 w =>
  C v34 (S P (vbuild 43 #[(0, (Value.int IntKind.i64 9)), (1, (Value.string { data := #[110, 111, 112] })), (4, (Value.int IntKind.i64 1))]) w Kp fun v35 w =>
  S P (vstore 43 v1 v35) w Kp fun v36 w =>
  RC P 43 v1 w fun r37 => K r37 w)
  (S P (vbin .eql 3 false true x0 (Value.int IntKind.i64 10)) w Kp fun v38 w =>
  C v38 (S P (vbuild 43 #[(0, (Value.int IntKind.i64 10)), (1, (Value.string { data := #[121, 105, 101, 108, 100] })), (4, (Value.int IntKind.i64 1))]) w Kp fun v39 w =>
  S P (vstore 43 v1 v39) w Kp fun v40 w =>
  RC P 43 v1 w fun r41 => K r41 w)
  (S P (vbin .eql 3 false true x0 (Value.int IntKind.i64 11)) w Kp fun v42 w =>
  C v42 (S P (vbuild 43 #[(0, (Value.int IntKind.i64 11)), (1, (Value.string { data := #[104, 97, 108, 116] })), (4, (Value.int IntKind.i64 1))]) w Kp fun v43 w =>
  S P (vstore 43 v1 v43) w Kp fun v44 w =>
  RC P 43 v1 w fun r45 => K r45 w)
  (S P (vbin .eql 3 false true x0 (Value.int IntKind.i64 12)) w Kp fun v46 w =>
  C v46 (S P (vbuild 43 #[(0, (Value.int IntKind.i64 12)), (1, (Value.string { data := #[100, 117, 112] })), (2, (Value.int IntKind.i64 1)), (3, (Value.int IntKind.i64 2)), (4, (Value.int IntKind.i64 1))]) w Kp fun v47 w =>
  S P (vstore 43 v1 v47) w Kp fun v48 w =>
  RC P 43 v1 w fun r49 => K r49 w)
  (S P (vbin .eql 3 false true x0 (Value.int IntKind.i64 13)) w Kp fun v50 w =>
  C v50 (S P (vbuild 43 #[(0, (Value.int IntKind.i64 13)), (1, (Value.string { data := #[100, 114, 111, 112] })), (2, (Value.int IntKind.i64 1)), (4, (Value.int IntKind.i64 1))]) w Kp fun v51 w =>
  S P (vstore 43 v1 v51) w Kp fun v52 w =>
  RC P 43 v1 w fun r53 => K r53 w)
  (S P (vbin .eql 3 false true x0 (Value.int IntKind.i64 14)) w Kp fun v54 w =>
  C v54 (S P (vbuild 43 #[(0, (Value.int IntKind.i64 14)), (1, (Value.string { data := #[115, 119, 97, 112] })), (2, (Value.int IntKind.i64 2)), (3, (Value.int IntKind.i64 2)), (4, (Value.int IntKind.i64 1))]) w Kp fun v55 w =>
  S P (vstore 43 v1 v55) w Kp fun v56 w =>
  RC P 43 v1 w fun r57 => K r57 w)
  (S P (vbin .eql 3 false true x0 (Value.int IntKind.i64 15)) w Kp fun v58 w =>
  C v58 (S P (vbuild 43 #[(0, (Value.int IntKind.i64 15)), (1, (Value.string { data := #[111, 118, 101, 114] })), (2, (Value.int IntKind.i64 2)), (3, (Value.int IntKind.i64 3)), (4, (Value.int IntKind.i64 1))]) w Kp fun v59 w =>
  S P (vstore 43 v1 v59) w Kp fun v60 w =>
  RC P 43 v1 w fun r61 => K r61 w)
  (S P (vbin .eql 3 false true x0 (Value.int IntKind.i64 16)) w Kp fun v62 w =>
  C v62 (S P (vbuild 43 #[(0, (Value.int IntKind.i64 16)), (1, (Value.string { data := #[114, 111, 116] })), (2, (Value.int IntKind.i64 3)), (3, (Value.int IntKind.i64 3)), (4, (Value.int IntKind.i64 1))]) w Kp fun v63 w =>
  S P (vstore 43 v1 v63) w Kp fun v64 w =>
  RC P 43 v1 w fun r65 => K r65 w)
  (S P (vbin .eql 3 false true x0 (Value.int IntKind.i64 17)) w Kp fun v66 w =>
  C v66 (S P (vbuild 43 #[(0, (Value.int IntKind.i64 17)), (1, (Value.string { data := #[110, 105, 112] })), (2, (Value.int IntKind.i64 2)), (3, (Value.int IntKind.i64 1)), (4, (Value.int IntKind.i64 1))]) w Kp fun v67 w =>
  S P (vstore 43 v1 v67) w Kp fun v68 w =>
  RC P 43 v1 w fun r69 => K r69 w)
  (S P (vbin .eql 3 false true x0 (Value.int IntKind.i64 18)) w Kp fun v70 w =>
  C v70 (S P (vbuild 43 #[(0, (Value.int IntKind.i64 18)), (1, (Value.string { data := #[116, 117, 99, 107] })), (2, (Value.int IntKind.i64 2)), (3, (Value.int IntKind.i64 3)), (4, (Value.int IntKind.i64 1))]) w Kp fun v71 w =>
  S P (vstore 43 v1 v71) w Kp fun v72 w =>
  RC P 43 v1 w fun r73 => K r73 w)
  (S P (vbin .eql 3 false true x0 (Value.int IntKind.i64 19)) w Kp fun v74 w =>
  C v74 (S P (vbuild 43 #[(0, (Value.int IntKind.i64 19)), (1, (Value.string { data := #[50, 100, 117, 112] })), (2, (Value.int IntKind.i64 2)), (3, (Value.int IntKind.i64 4)), (4, (Value.int IntKind.i64 2))]) w Kp fun v75 w =>
  S P (vstore 43 v1 v75) w Kp fun v76 w =>
  RC P 43 v1 w fun r77 => K r77 w)
  (S P (vbin .eql 3 false true x0 (Value.int IntKind.i64 20)) w Kp fun v78 w =>
  C v78 (S P (vbuild 43 #[(0, (Value.int IntKind.i64 20)), (1, (Value.string { data := #[50, 100, 114, 111, 112] })), (2, (Value.int IntKind.i64 2)), (4, (Value.int IntKind.i64 1))]) w Kp fun v79 w =>
  S P (vstore 43 v1 v79) w Kp fun v80 w =>
  RC P 43 v1 w fun r81 => K r81 w)
  (S P (vbuild 43 #[]) w Kp fun v82 w =>
  S P (vstore 43 v1 v82) w Kp fun v83 w =>
  RC P 43 v1 w fun r84 => K r84 w))))))))))))))))))))
theorem F89_eq (x0 : Value) (w : World) (Kp : KP) (K : K0) : F89 x0 w Kp K = wpE P [2] (bodyOf Tryz.f89) (postE P Tryz.f89.results.toList Kp K) (List.range 1 ++ [2]) (ε0 #[x0]) w := by kernel_rfl
theorem F89_calls {x0 : Value} {w : World} {Kp : KP} {K : K0} (h : F89 x0 w Kp K) : Calls P 89 #[x0] w (EndsS Kp K) :=
  calls_of follows [2] Tryz.func89 (by kernel_rfl) (by kernel_rfl) (by kernel_rfl) (F89_eq x0 w Kp K ▸ h)

/-- wisp/wispref06.middle -/
def F90 (x0 : Value) (w : World) (Kp : KP) (K : K0) : Prop :=
  S P (valloc 43) w Kp fun v1 w =>
  S P (vbin .eql 3 false true x0 (Value.int IntKind.i64 21)) w Kp fun v2 w =>
  C v2 (S P (vbuild 43 #[(0, (Value.int IntKind.i64 21)), (1, (Value.string { data := #[43] })), (2, (Value.int IntKind.i64 2)), (3, (Value.int IntKind.i64 1)), (4, (Value.int IntKind.i64 1))]) w Kp fun v3 w =>
  S P (vstore 43 v1 v3) w Kp fun v4 w =>
  RC P 43 v1 w fun r5 => K r5 w)
  (S P (vbin .eql 3 false true x0 (Value.int IntKind.i64 22)) w Kp fun v6 w =>
  C v6 (S P (vbuild 43 #[(0, (Value.int IntKind.i64 22)), (1, (Value.string { data := #[45] })), (2, (Value.int IntKind.i64 2)), (3, (Value.int IntKind.i64 1)), (4, (Value.int IntKind.i64 1))]) w Kp fun v7 w =>
  S P (vstore 43 v1 v7) w Kp fun v8 w =>
  RC P 43 v1 w fun r9 => K r9 w)
  (S P (vbin .eql 3 false true x0 (Value.int IntKind.i64 23)) w Kp fun v10 w =>
  C v10 (S P (vbuild 43 #[(0, (Value.int IntKind.i64 23)), (1, (Value.string { data := #[42] })), (2, (Value.int IntKind.i64 2)), (3, (Value.int IntKind.i64 1)), (4, (Value.int IntKind.i64 3))]) w Kp fun v11 w =>
  S P (vstore 43 v1 v11) w Kp fun v12 w =>
  RC P 43 v1 w fun r13 => K r13 w)
  (S P (vbin .eql 3 false true x0 (Value.int IntKind.i64 24)) w Kp fun v14 w =>
  C v14 (S P (vbuild 43 #[(0, (Value.int IntKind.i64 24)), (1, (Value.string { data := #[47] })), (2, (Value.int IntKind.i64 2)), (3, (Value.int IntKind.i64 1)), (4, (Value.int IntKind.i64 4))]) w Kp fun v15 w =>
  S P (vstore 43 v1 v15) w Kp fun v16 w =>
  RC P 43 v1 w fun r17 => K r17 w)
  (S P (vbin .eql 3 false true x0 (Value.int IntKind.i64 25)) w Kp fun v18 w =>
  C v18 (S P (vbuild 43 #[(0, (Value.int IntKind.i64 25)), (1, (Value.string { data := #[109, 111, 100] })), (2, (Value.int IntKind.i64 2)), (3, (Value.int IntKind.i64 1)), (4, (Value.int IntKind.i64 4))]) w Kp fun v19 w =>
  S P (vstore 43 v1 v19) w Kp fun v20 w =>
  RC P 43 v1 w fun r21 => K r21 w)
  (S P (vbin .eql 3 false true x0 (Value.int IntKind.i64 26)) w Kp fun v22 w =>
  C v22 (S P (vbuild 43 #[(0, (Value.int IntKind.i64 26)), (1, (Value.string { data := #[117, 47] })), (2, (Value.int IntKind.i64 2)), (3, (Value.int IntKind.i64 1)), (4, (Value.int IntKind.i64 4))]) w Kp fun v23 w =>
  S P (vstore 43 v1 v23) w Kp fun v24 w =>
  RC P 43 v1 w fun r25 => K r25 w)
  (S P (vbin .eql 3 false true x0 (Value.int IntKind.i64 27)) w Kp fun v26 w =>
  C v26 (S P (vbuild 43 #[(0, (Value.int IntKind.i64 27)), (1, (Value.string { data := #[117, 109, 111, 100] })), (2, (Value.int IntKind.i64 2)), (3, (Value.int IntKind.i64 1)), (4, (Value.int IntKind.i64 4))]) w Kp fun v27 w =>
  S P (vstore 43 v1 v27) w Kp fun v28 w =>
  RC P 43 v1 w fun r29 => K r29 w)
  (S P (vbin .eql 3 false true x0 (Value.int IntKind.i64 28)) w Kp fun v30 w =>
  C v30 (S P (vbuild 43 #[(0, (Value.int IntKind.i64 28)), (1, (Value.string { data := #[110, 101, 103, 97, 116, 101] })), (2, (Value.int IntKind.i64 1)), (3, (Value.int IntKind.i64 1)), (4, (Value.int IntKind.i64 1))]) w Kp fun v31 w =>
  S P (vstore 43 v1 v31) w Kp fun v32 w =>
  RC P 43 v1 w fun r33 => K r33 w)
  (S P (vbin .eql 3 false true x0 (Value.int IntKind.i64 29)) w Kp fun v34 w =>
  C v34 (S P (vbuild 43 #[(0, (Value.int IntKind.i64 29)), (1, (Value.string { data := #[97, 98, 115] })), (2, (Value.int IntKind.i64 1)), (3, (Value.int IntKind.i64 1)), (4, (Value.int IntKind.i64 1))]) w Kp fun v35 w =>
  S P (vstore 43 v1 v35) w Kp fun v36 w =>
  RC P 43 v1 w fun r37 => K r37 w)
  (S P (vbin .eql 3 false true x0 (Value.int IntKind.i64 30)) w Kp fun v38 w =>
  C v38 (S P (vbuild 43 #[(0, (Value.int IntKind.i64 30)), (1, (Value.string { data := #[109, 105, 110] })), (2, (Value.int IntKind.i64 2)), (3, (Value.int IntKind.i64 1)), (4, (Value.int IntKind.i64 1))]) w Kp fun v39 w =>
  S P (vstore 43 v1 v39) w Kp fun v40 w =>
  RC P 43 v1 w fun r41 => K r41 w)
  (S P (vbin .eql 3 false true x0 (Value.int IntKind.i64 31)) w Kp fun v42 w =>
  C v42 (S P (vbuild 43 #[(0, (Value.int IntKind.i64 31)), (1, (Value.string { data := #[109, 97, 120] })), (2, (Value.int IntKind.i64 2)), (3, (Value.int IntKind.i64 1)), (4, (Value.int IntKind.i64 1))]) w Kp fun v43 w =>
  S P (vstore 43 v1 v43) w Kp fun v44 w =>
  RC P 43 v1 w fun r45 => K r45 w)
  (S P (vbin .eql 3 false true x0 (Value.int IntKind.i64 32)) w Kp fun v46 w =>
  C v46 (S P (vbuild 43 #[(0, (Value.int IntKind.i64 32)), (1, (Value.string { data := #[49, 43] })), (2, (Value.int IntKind.i64 1)), (3, (Value.int IntKind.i64 1)), (4, (Value.int IntKind.i64 1))]) w Kp fun v47 w =>
  S P (vstore 43 v1 v47) w Kp fun v48 w =>
  RC P 43 v1 w fun r49 => K r49 w)
  (S P (vbin .eql 3 false true x0 (Value.int IntKind.i64 33)) w Kp fun v50 w =>
  C v50 (S P (vbuild 43 #[(0, (Value.int IntKind.i64 33)), (1, (Value.string { data := #[49, 45] })), (2, (Value.int IntKind.i64 1)), (3, (Value.int IntKind.i64 1)), (4, (Value.int IntKind.i64 1))]) w Kp fun v51 w =>
  S P (vstore 43 v1 v51) w Kp fun v52 w =>
  RC P 43 v1 w fun r53 => K r53 w)
  (S P (vbin .eql 3 false true x0 (Value.int IntKind.i64 34)) w Kp fun v54 w =>
  C v54 (S P (vbuild 43 #[(0, (Value.int IntKind.i64 34)), (1, (Value.string { data := #[50, 42] })), (2, (Value.int IntKind.i64 1)), (3, (Value.int IntKind.i64 1)), (4, (Value.int IntKind.i64 1))]) w Kp fun v55 w =>
  S P (vstore 43 v1 v55) w Kp fun v56 w =>
  RC P 43 v1 w fun r57 => K r57 w)
  (S P (vbin .eql 3 false true x0 (Value.int IntKind.i64 35)) w Kp fun v58 w =>
  C v58 (S P (vbuild 43 #[(0, (Value.int IntKind.i64 35)), (1, (Value.string { data := #[50, 47] })), (2, (Value.int IntKind.i64 1)), (3, (Value.int IntKind.i64 1)), (4, (Value.int IntKind.i64 1))]) w Kp fun v59 w =>
  S P (vstore 43 v1 v59) w Kp fun v60 w =>
  RC P 43 v1 w fun r61 => K r61 w)
  (S P (vbin .eql 3 false true x0 (Value.int IntKind.i64 36)) w Kp fun v62 w =>
  C v62 (S P (vbuild 43 #[(0, (Value.int IntKind.i64 36)), (1, (Value.string { data := #[97, 110, 100] })), (2, (Value.int IntKind.i64 2)), (3, (Value.int IntKind.i64 1)), (4, (Value.int IntKind.i64 1))]) w Kp fun v63 w =>
  S P (vstore 43 v1 v63) w Kp fun v64 w =>
  RC P 43 v1 w fun r65 => K r65 w)
  (S P (vbin .eql 3 false true x0 (Value.int IntKind.i64 37)) w Kp fun v66 w =>
  C v66 (S P (vbuild 43 #[(0, (Value.int IntKind.i64 37)), (1, (Value.string { data := #[111, 114] })), (2, (Value.int IntKind.i64 2)), (3, (Value.int IntKind.i64 1)), (4, (Value.int IntKind.i64 1))]) w Kp fun v67 w =>
  S P (vstore 43 v1 v67) w Kp fun v68 w =>
  RC P 43 v1 w fun r69 => K r69 w)
  (S P (vbin .eql 3 false true x0 (Value.int IntKind.i64 38)) w Kp fun v70 w =>
  C v70 (S P (vbuild 43 #[(0, (Value.int IntKind.i64 38)), (1, (Value.string { data := #[120, 111, 114] })), (2, (Value.int IntKind.i64 2)), (3, (Value.int IntKind.i64 1)), (4, (Value.int IntKind.i64 1))]) w Kp fun v71 w =>
  S P (vstore 43 v1 v71) w Kp fun v72 w =>
  RC P 43 v1 w fun r73 => K r73 w)
  (S P (vbin .eql 3 false true x0 (Value.int IntKind.i64 39)) w Kp fun v74 w =>
  C v74 (S P (vbuild 43 #[(0, (Value.int IntKind.i64 39)), (1, (Value.string { data := #[105, 110, 118, 101, 114, 116] })), (2, (Value.int IntKind.i64 1)), (3, (Value.int IntKind.i64 1)), (4, (Value.int IntKind.i64 1))]) w Kp fun v75 w =>
  S P (vstore 43 v1 v75) w Kp fun v76 w =>
  RC P 43 v1 w fun r77 => K r77 w)
  (S P (vbin .eql 3 false true x0 (Value.int IntKind.i64 40)) w Kp fun v78 w =>
  C v78 (S P (vbuild 43 #[(0, (Value.int IntKind.i64 40)), (1, (Value.string { data := #[108, 115, 104, 105, 102, 116] })), (2, (Value.int IntKind.i64 2)), (3, (Value.int IntKind.i64 1)), (4, (Value.int IntKind.i64 1))]) w Kp fun v79 w =>
  S P (vstore 43 v1 v79) w Kp fun v80 w =>
  RC P 43 v1 w fun r81 => K r81 w)
  (S P (vbin .eql 3 false true x0 (Value.int IntKind.i64 41)) w Kp fun v82 w =>
  C v82 (S P (vbuild 43 #[(0, (Value.int IntKind.i64 41)), (1, (Value.string { data := #[114, 115, 104, 105, 102, 116] })), (2, (Value.int IntKind.i64 2)), (3, (Value.int IntKind.i64 1)), (4, (Value.int IntKind.i64 1))]) w Kp fun v83 w =>
  S P (vstore 43 v1 v83) w Kp fun v84 w =>
  RC P 43 v1 w fun r85 => K r85 w)
  (S P (vbuild 43 #[]) w Kp fun v86 w =>
  S P (vstore 43 v1 v86) w Kp fun v87 w =>
  RC P 43 v1 w fun r88 => K r88 w)))))))))))))))))))))
theorem F90_eq (x0 : Value) (w : World) (Kp : KP) (K : K0) : F90 x0 w Kp K = wpE P [2] (bodyOf Tryz.f90) (postE P Tryz.f90.results.toList Kp K) (List.range 1 ++ [2]) (ε0 #[x0]) w := by kernel_rfl
theorem F90_calls {x0 : Value} {w : World} {Kp : KP} {K : K0} (h : F90 x0 w Kp K) : Calls P 90 #[x0] w (EndsS Kp K) :=
  calls_of follows [2] Tryz.func90 (by kernel_rfl) (by kernel_rfl) (by kernel_rfl) (F90_eq x0 w Kp K ▸ h)

/-- wisp/wispref06.upper -/
def F91 (x0 : Value) (w : World) (Kp : KP) (K : K0) : Prop :=
  S P (valloc 43) w Kp fun v1 w =>
  S P (vbin .eql 3 false true x0 (Value.int IntKind.i64 42)) w Kp fun v2 w =>
  C v2 (S P (vbuild 43 #[(0, (Value.int IntKind.i64 42)), (1, (Value.string { data := #[61] })), (2, (Value.int IntKind.i64 2)), (3, (Value.int IntKind.i64 1)), (4, (Value.int IntKind.i64 1))]) w Kp fun v3 w =>
  S P (vstore 43 v1 v3) w Kp fun v4 w =>
  RC P 43 v1 w fun r5 => K r5 w)
  (S P (vbin .eql 3 false true x0 (Value.int IntKind.i64 43)) w Kp fun v6 w =>
  C v6 (S P (vbuild 43 #[(0, (Value.int IntKind.i64 43)), (1, (Value.string { data := #[60, 62] })), (2, (Value.int IntKind.i64 2)), (3, (Value.int IntKind.i64 1)), (4, (Value.int IntKind.i64 1))]) w Kp fun v7 w =>
  S P (vstore 43 v1 v7) w Kp fun v8 w =>
  RC P 43 v1 w fun r9 => K r9 w)
  (S P (vbin .eql 3 false true x0 (Value.int IntKind.i64 44)) w Kp fun v10 w =>
  C v10 (S P (vbuild 43 #[(0, (Value.int IntKind.i64 44)), (1, (Value.string { data := #[60] })), (2, (Value.int IntKind.i64 2)), (3, (Value.int IntKind.i64 1)), (4, (Value.int IntKind.i64 1))]) w Kp fun v11 w =>
  S P (vstore 43 v1 v11) w Kp fun v12 w =>
  RC P 43 v1 w fun r13 => K r13 w)
  (S P (vbin .eql 3 false true x0 (Value.int IntKind.i64 45)) w Kp fun v14 w =>
  C v14 (S P (vbuild 43 #[(0, (Value.int IntKind.i64 45)), (1, (Value.string { data := #[62] })), (2, (Value.int IntKind.i64 2)), (3, (Value.int IntKind.i64 1)), (4, (Value.int IntKind.i64 1))]) w Kp fun v15 w =>
  S P (vstore 43 v1 v15) w Kp fun v16 w =>
  RC P 43 v1 w fun r17 => K r17 w)
  (S P (vbin .eql 3 false true x0 (Value.int IntKind.i64 46)) w Kp fun v18 w =>
  C v18 (S P (vbuild 43 #[(0, (Value.int IntKind.i64 46)), (1, (Value.string { data := #[117, 60] })), (2, (Value.int IntKind.i64 2)), (3, (Value.int IntKind.i64 1)), (4, (Value.int IntKind.i64 1))]) w Kp fun v19 w =>
  S P (vstore 43 v1 v19) w Kp fun v20 w =>
  RC P 43 v1 w fun r21 => K r21 w)
  (S P (vbin .eql 3 false true x0 (Value.int IntKind.i64 47)) w Kp fun v22 w =>
  C v22 (S P (vbuild 43 #[(0, (Value.int IntKind.i64 47)), (1, (Value.string { data := #[117, 62] })), (2, (Value.int IntKind.i64 2)), (3, (Value.int IntKind.i64 1)), (4, (Value.int IntKind.i64 1))]) w Kp fun v23 w =>
  S P (vstore 43 v1 v23) w Kp fun v24 w =>
  RC P 43 v1 w fun r25 => K r25 w)
  (S P (vbin .eql 3 false true x0 (Value.int IntKind.i64 48)) w Kp fun v26 w =>
  C v26 (S P (vbuild 43 #[(0, (Value.int IntKind.i64 48)), (1, (Value.string { data := #[48, 61] })), (2, (Value.int IntKind.i64 1)), (3, (Value.int IntKind.i64 1)), (4, (Value.int IntKind.i64 1))]) w Kp fun v27 w =>
  S P (vstore 43 v1 v27) w Kp fun v28 w =>
  RC P 43 v1 w fun r29 => K r29 w)
  (S P (vbin .eql 3 false true x0 (Value.int IntKind.i64 49)) w Kp fun v30 w =>
  C v30 (S P (vbuild 43 #[(0, (Value.int IntKind.i64 49)), (1, (Value.string { data := #[48, 60] })), (2, (Value.int IntKind.i64 1)), (3, (Value.int IntKind.i64 1)), (4, (Value.int IntKind.i64 1))]) w Kp fun v31 w =>
  S P (vstore 43 v1 v31) w Kp fun v32 w =>
  RC P 43 v1 w fun r33 => K r33 w)
  (S P (vbin .eql 3 false true x0 (Value.int IntKind.i64 50)) w Kp fun v34 w =>
  C v34 (S P (vbuild 43 #[(0, (Value.int IntKind.i64 50)), (1, (Value.string { data := #[64] })), (2, (Value.int IntKind.i64 1)), (3, (Value.int IntKind.i64 1)), (4, (Value.int IntKind.i64 2))]) w Kp fun v35 w =>
  S P (vstore 43 v1 v35) w Kp fun v36 w =>
  RC P 43 v1 w fun r37 => K r37 w)
  (S P (vbin .eql 3 false true x0 (Value.int IntKind.i64 51)) w Kp fun v38 w =>
  C v38 (S P (vbuild 43 #[(0, (Value.int IntKind.i64 51)), (1, (Value.string { data := #[33] })), (2, (Value.int IntKind.i64 2)), (4, (Value.int IntKind.i64 2))]) w Kp fun v39 w =>
  S P (vstore 43 v1 v39) w Kp fun v40 w =>
  RC P 43 v1 w fun r41 => K r41 w)
  (S P (vbin .eql 3 false true x0 (Value.int IntKind.i64 52)) w Kp fun v42 w =>
  C v42 (S P (vbuild 43 #[(0, (Value.int IntKind.i64 52)), (1, (Value.string { data := #[99, 64] })), (2, (Value.int IntKind.i64 1)), (3, (Value.int IntKind.i64 1)), (4, (Value.int IntKind.i64 2))]) w Kp fun v43 w =>
  S P (vstore 43 v1 v43) w Kp fun v44 w =>
  RC P 43 v1 w fun r45 => K r45 w)
  (S P (vbin .eql 3 false true x0 (Value.int IntKind.i64 53)) w Kp fun v46 w =>
  C v46 (S P (vbuild 43 #[(0, (Value.int IntKind.i64 53)), (1, (Value.string { data := #[99, 33] })), (2, (Value.int IntKind.i64 2)), (4, (Value.int IntKind.i64 2))]) w Kp fun v47 w =>
  S P (vstore 43 v1 v47) w Kp fun v48 w =>
  RC P 43 v1 w fun r49 => K r49 w)
  (S P (vbin .eql 3 false true x0 (Value.int IntKind.i64 54)) w Kp fun v50 w =>
  C v50 (S P (vbuild 43 #[(0, (Value.int IntKind.i64 54)), (1, (Value.string { data := #[43, 33] })), (2, (Value.int IntKind.i64 2)), (4, (Value.int IntKind.i64 3))]) w Kp fun v51 w =>
  S P (vstore 43 v1 v51) w Kp fun v52 w =>
  RC P 43 v1 w fun r53 => K r53 w)
  (S P (vbin .eql 3 false true x0 (Value.int IntKind.i64 55)) w Kp fun v54 w =>
  C v54 (S P (vbuild 43 #[(0, (Value.int IntKind.i64 55)), (1, (Value.string { data := #[62, 114] })), (2, (Value.int IntKind.i64 1)), (4, (Value.int IntKind.i64 1))]) w Kp fun v55 w =>
  S P (vstore 43 v1 v55) w Kp fun v56 w =>
  RC P 43 v1 w fun r57 => K r57 w)
  (S P (vbin .eql 3 false true x0 (Value.int IntKind.i64 56)) w Kp fun v58 w =>
  C v58 (S P (vbuild 43 #[(0, (Value.int IntKind.i64 56)), (1, (Value.string { data := #[114, 62] })), (3, (Value.int IntKind.i64 1)), (4, (Value.int IntKind.i64 1))]) w Kp fun v59 w =>
  S P (vstore 43 v1 v59) w Kp fun v60 w =>
  RC P 43 v1 w fun r61 => K r61 w)
  (S P (vbin .eql 3 false true x0 (Value.int IntKind.i64 57)) w Kp fun v62 w =>
  C v62 (S P (vbuild 43 #[(0, (Value.int IntKind.i64 57)), (1, (Value.string { data := #[114, 64] })), (3, (Value.int IntKind.i64 1)), (4, (Value.int IntKind.i64 1))]) w Kp fun v63 w =>
  S P (vstore 43 v1 v63) w Kp fun v64 w =>
  RC P 43 v1 w fun r65 => K r65 w)
  (S P (vbin .eql 3 false true x0 (Value.int IntKind.i64 58)) w Kp fun v66 w =>
  C v66 (S P (vbuild 43 #[(0, (Value.int IntKind.i64 58)), (1, (Value.string { data := #[105] })), (3, (Value.int IntKind.i64 1)), (4, (Value.int IntKind.i64 1))]) w Kp fun v67 w =>
  S P (vstore 43 v1 v67) w Kp fun v68 w =>
  RC P 43 v1 w fun r69 => K r69 w)
  (S P (vbin .eql 3 false true x0 (Value.int IntKind.i64 59)) w Kp fun v70 w =>
  C v70 (S P (vbuild 43 #[(0, (Value.int IntKind.i64 59)), (1, (Value.string { data := #[106] })), (3, (Value.int IntKind.i64 1)), (4, (Value.int IntKind.i64 1))]) w Kp fun v71 w =>
  S P (vstore 43 v1 v71) w Kp fun v72 w =>
  RC P 43 v1 w fun r73 => K r73 w)
  (S P (vbin .eql 3 false true x0 (Value.int IntKind.i64 60)) w Kp fun v74 w =>
  C v74 (S P (vbuild 43 #[(0, (Value.int IntKind.i64 60)), (1, (Value.string { data := #[112, 108, 111, 116] })), (2, (Value.int IntKind.i64 3)), (4, (Value.int IntKind.i64 3))]) w Kp fun v75 w =>
  S P (vstore 43 v1 v75) w Kp fun v76 w =>
  RC P 43 v1 w fun r77 => K r77 w)
  (S P (vbin .eql 3 false true x0 (Value.int IntKind.i64 61)) w Kp fun v78 w =>
  C v78 (S P (vbuild 43 #[(0, (Value.int IntKind.i64 61)), (1, (Value.string { data := #[112, 97, 100] })), (3, (Value.int IntKind.i64 1)), (4, (Value.int IntKind.i64 1))]) w Kp fun v79 w =>
  S P (vstore 43 v1 v79) w Kp fun v80 w =>
  RC P 43 v1 w fun r81 => K r81 w)
  (S P (vbin .eql 3 false true x0 (Value.int IntKind.i64 62)) w Kp fun v82 w =>
  C v82 (S P (vbuild 43 #[(0, (Value.int IntKind.i64 62)), (1, (Value.string { data := #[116, 111, 110, 101] })), (2, (Value.int IntKind.i64 2)), (4, (Value.int IntKind.i64 2))]) w Kp fun v83 w =>
  S P (vstore 43 v1 v83) w Kp fun v84 w =>
  RC P 43 v1 w fun r85 => K r85 w)
  (S P (vbin .eql 3 false true x0 (Value.int IntKind.i64 63)) w Kp fun v86 w =>
  C v86 (S P (vbuild 43 #[(0, (Value.int IntKind.i64 63)), (1, (Value.string { data := #[98, 97, 110, 107] })), (2, (Value.int IntKind.i64 1)), (4, (Value.int IntKind.i64 1))]) w Kp fun v87 w =>
  S P (vstore 43 v1 v87) w Kp fun v88 w =>
  RC P 43 v1 w fun r89 => K r89 w)
  (S P (vbuild 43 #[]) w Kp fun v90 w =>
  S P (vstore 43 v1 v90) w Kp fun v91 w =>
  RC P 43 v1 w fun r92 => K r92 w))))))))))))))))))))))
theorem F91_eq (x0 : Value) (w : World) (Kp : KP) (K : K0) : F91 x0 w Kp K = wpE P [2] (bodyOf Tryz.f91) (postE P Tryz.f91.results.toList Kp K) (List.range 1 ++ [2]) (ε0 #[x0]) w := by kernel_rfl
theorem F91_calls {x0 : Value} {w : World} {Kp : KP} {K : K0} (h : F91 x0 w Kp K) : Calls P 91 #[x0] w (EndsS Kp K) :=
  calls_of follows [2] Tryz.func91 (by kernel_rfl) (by kernel_rfl) (by kernel_rfl) (F91_eq x0 w Kp K ▸ h)

/-- wisp/wispref06.Do -/
def F39 (x0 x1 x2 x3 : Value) (w : World) (Kp : KP) (K : K0) : Prop :=
  S P (vcall (Value.func (Fn.func 63) #[] #[]) #[x0]) w Kp fun v1 w =>
  S P (vun .not v1) w Kp fun v2 w =>
  GS v2 false P (vmove x1) w Kp fun v3 w =>
  GS v2 false P (vbin .eql 35 false true v3 (Value.pointer none)) w Kp fun v4 w =>
  S P (vpick v2 (Value.bool true) v4) w Kp fun v5 w =>
  GS v5 false P (vmove x2) w Kp fun v6 w =>
  GS v5 false P (vbin .eql 36 false true v6 (Value.pointer none)) w Kp fun v7 w =>
  S P (vpick v5 (Value.bool true) v7) w Kp fun v8 w =>
  GS v8 false P (vmove x3) w Kp fun v9 w =>
  GS v8 false P (vbin .eql 37 false true v9 (Value.pointer none)) w Kp fun v10 w =>
  S P (vpick v8 (Value.bool true) v10) w Kp fun v11 w =>
  C v11 (K (Value.int IntKind.i64 6) w)
  (S P (vcall (Value.func (Fn.func 64) #[] #[]) #[x0, x1, x2]) w Kp fun v12 w =>
  S P (vbin .neq 3 false true v12 (Value.int IntKind.i64 0)) w Kp fun v13 w =>
  C v13 (K v12 w)
  (∃ H14 : World → Prop, H14 (drewW w) ∧
  Fl P H14 (vnil x1) fun v15 =>
  Fl P H14 (vfield 85 v15 0) fun v16 =>
  Fl P H14 (vload 22 v16) fun v17 =>
  Fl P H14 (vblt .len #[22] 3 #[false] #[v17]) fun v18 =>
  S P (vcall (Value.func (Fn.func 65) #[] #[]) #[x0]) (drewW w) Kp fun v19 w =>
  H14 w ∧ Fl P H14 (vfld 43 v19 2) fun v20 =>
  Fl P H14 (vbin .sub 3 false false v18 v20) fun v21 =>
  S P (vbuildS 22 0 #[]) w Kp fun v22 w =>
  S P (vnil x1) w Kp fun v23 w =>
  S P (vfield 85 v23 0) w Kp fun v24 w =>
  S P (vload 22 v24) w Kp fun v25 w =>
  S P (vslice 22 v25 (some v21) none none) w Kp fun v26 w =>
  S P (vblt .append #[22, 22] 22 #[false, false] #[v22, v26]) w Kp fun v27 w =>
  S P (vbuildS 22 0 #[]) w Kp fun v28 w =>
  S P (vnil x1) w Kp fun v29 w =>
  S P (vfield 85 v29 0) w Kp fun v30 w =>
  S P (vload 22 v30) w Kp fun v31 w =>
  S P (vslice 22 v31 none (some v21) none) w Kp fun v32 w =>
  S P (vblt .append #[22, 22] 22 #[false, false] #[v28, v32]) w Kp fun v33 w =>
  S P (vnil x1) w Kp fun v34 w =>
  S P (vfield 85 v34 0) w Kp fun v35 w =>
  S P (vstore 22 v35 v33) w Kp fun v36 w =>
  J (fun ε37 w => S P (vcall (Value.func (Fn.func 27) #[] #[]) #[(ε37 1), (ε37 13)]) w Kp fun v39 w =>
  K (Value.int IntKind.i64 0) w) fun k38 =>
  S P (vbin .geq 3 false true x0 (Value.int IntKind.i64 12)) w Kp fun v40 w =>
  GS v40 true P (vmove x0) w Kp fun v41 w =>
  GS v40 true P (vbin .leq 3 false true v41 (Value.int IntKind.i64 20)) w Kp fun v42 w =>
  S P (vpick v40 v42 (Value.bool false)) w Kp fun v43 w =>
  C v43 (S P (vcall (Value.func (Fn.func 66) #[] #[]) #[x0, v27]) w Kp fun v44 w =>
  k38 (upd 0 x0 (upd 1 x1 (upd 2 x2 (upd 3 x3 (upd 8 (Value.int IntKind.i64 0) (upd 13 v44 E0)))))) w)
  (S P (vbin .eql 3 false true x0 (Value.int IntKind.i64 6)) w Kp fun v45 w =>
  GS v45 false P (vmove x0) w Kp fun v46 w =>
  GS v45 false P (vbin .geq 3 false true v46 (Value.int IntKind.i64 55)) w Kp fun v47 w =>
  GS v45 false P (vmove v47) w Kp fun v48 w =>
  GS v48 true P (vmove x0) w Kp fun v49 w =>
  GS v48 true P (vbin .leq 3 false true v49 (Value.int IntKind.i64 59)) w Kp fun v50 w =>
  GS v45 false P (vpick v48 v50 (Value.bool false)) w Kp fun v51 w =>
  S P (vpick v45 (Value.bool true) v51) w Kp fun v52 w =>
  C v52 (S P (vcall (Value.func (Fn.func 67) #[] #[]) #[x0, v27, x2]) w Kp fun v53 w =>
  k38 (upd 0 x0 (upd 1 x1 (upd 2 x2 (upd 3 x3 (upd 8 (Value.int IntKind.i64 0) (upd 13 v53 E0)))))) w)
  (S P (vbin .geq 3 false true x0 (Value.int IntKind.i64 50)) w Kp fun v54 w =>
  C v54 (S P (vcall (Value.func (Fn.func 68) #[] #[]) #[x0, v27, x3]) w Kp fun v55 w =>
  k38 (upd 0 x0 (upd 1 x1 (upd 2 x2 (upd 3 x3 (upd 8 (Value.int IntKind.i64 0) (upd 13 v55 E0)))))) w)
  (S P (vbin .gtr 3 false true x0 (Value.int IntKind.i64 20)) w Kp fun v56 w =>
  GS v56 true P (vmove v27) w Kp fun v57 w =>
  GS v56 true P (vblt .len #[22] 3 #[false] #[v57]) w Kp fun v58 w =>
  GS v56 true P (vbin .eql 3 false true v58 (Value.int IntKind.i64 1)) w Kp fun v59 w =>
  S P (vpick v56 v59 (Value.bool false)) w Kp fun v60 w =>
  C v60 (S P (vixA 22 v27 (Value.int IntKind.i64 0)) w Kp fun v61 w =>
  S P (vload 41 v61) w Kp fun v62 w =>
  S P (vcall (Value.func (Fn.func 69) #[] #[]) #[x0, v62]) w Kp fun v63 w =>
  S P (vext v63 0) w Kp fun v64 w =>
  S P (vext v63 1) w Kp fun v65 w =>
  S P (vbuildS 22 1 #[(0, v64)]) w Kp fun v66 w =>
  k38 (upd 0 x0 (upd 1 x1 (upd 2 x2 (upd 3 x3 (upd 8 (Value.int IntKind.i64 0) (upd 13 v66 E0)))))) w)
  (S P (vbin .gtr 3 false true x0 (Value.int IntKind.i64 20)) w Kp fun v67 w =>
  C v67 (∃ H68 : World → Prop, H68 (drewW w) ∧
  Fl P H68 (vixA 22 v27 (Value.int IntKind.i64 0)) fun v69 =>
  Fl P H68 (vload 41 v69) fun v70 =>
  Fl P H68 (vixA 22 v27 (Value.int IntKind.i64 1)) fun v71 =>
  Fl P H68 (vload 41 v71) fun v72 =>
  S P (vcall (Value.func (Fn.func 70) #[] #[]) #[x0, v70, v72]) (drewW w) Kp fun v73 w =>
  ∃ H74 : World → Prop, H74 w ∧
  Fl P H74 (vext v73 0) fun v75 =>
  Fl P H74 (vext v73 1) fun v76 =>
  S P (vbuildS 22 1 #[(0, v75)]) w Kp fun v77 w =>
  k38 (upd 0 x0 (upd 1 x1 (upd 2 x2 (upd 3 x3 (upd 8 (Value.int IntKind.i64 0) (upd 13 v77 E0)))))) w)
  (k38 (upd 0 x0 (upd 1 x1 (upd 2 x2 (upd 3 x3 (upd 8 (Value.int IntKind.i64 0) (upd 13 (Value.slice none 0 0) E0)))))) w)))))))
theorem F39_eq (x0 x1 x2 x3 : Value) (w : World) (Kp : KP) (K : K0) : F39 x0 x1 x2 x3 w Kp K = wpE P [0, 1, 2, 3, 8, 13] (bodyOf Tryz.f39) (postE P Tryz.f39.results.toList Kp K) (List.range 4 ++ [0, 1, 2, 3, 8, 13]) (ε0 #[x0, x1, x2, x3]) w := by kernel_rfl
theorem F39_calls {x0 x1 x2 x3 : Value} {w : World} {Kp : KP} {K : K0} (h : F39 x0 x1 x2 x3 w Kp K) : Calls P 39 #[x0, x1, x2, x3] w (EndsS Kp K) :=
  calls_of follows [0, 1, 2, 3, 8, 13] Tryz.func39 (by kernel_rfl) (by kernel_rfl) (by kernel_rfl) (F39_eq x0 x1 x2 x3 w Kp K ▸ h)

/-- wisp/wispref01.Signed -/
def F98 (x0 : Value) (w : World) (Kp : KP) (K : K0) : Prop :=
  S P (vbin .geq 41 false true x0 (Value.int IntKind.u16 32768)) w Kp fun v1 w =>
  C v1 (S P (vconv 41 3 x0) w Kp fun v2 w =>
  S P (vbin .sub 3 false true v2 (Value.int IntKind.i64 65536)) w Kp fun v3 w =>
  K v3 w)
  (S P (vconv 41 3 x0) w Kp fun v4 w =>
  K v4 w)
theorem F98_eq (x0 : Value) (w : World) (Kp : KP) (K : K0) : F98 x0 w Kp K = wpE P [0, 2] (bodyOf Tryz.f98) (postE P Tryz.f98.results.toList Kp K) (List.range 1 ++ [0, 2]) (ε0 #[x0]) w := by kernel_rfl
theorem F98_calls {x0 : Value} {w : World} {Kp : KP} {K : K0} (h : F98 x0 w Kp K) : Calls P 98 #[x0] w (EndsS Kp K) :=
  calls_of follows [0, 2] Tryz.func98 (by kernel_rfl) (by kernel_rfl) (by kernel_rfl) (F98_eq x0 w Kp K ▸ h)

/-- wisp/wispref01.Cell -/
def F99 (x0 : Value) (w : World) (Kp : KP) (K : K0) : Prop :=
  S P (vbin .rem 3 false true x0 (Value.int IntKind.i64 65536)) w Kp fun v1 w =>
  J (fun ε2 w => S P (vconv 3 41 (ε2 0)) w Kp fun v4 w =>
  K v4 w) fun k3 =>
  S P (vbin .lss 3 false true v1 (Value.int IntKind.i64 0)) w Kp fun v5 w =>
  C v5 (S P (vbin .add 3 false true v1 (Value.int IntKind.i64 65536)) w Kp fun v6 w =>
  k3 (upd 0 v6 (upd 2 (Value.int IntKind.u16 0) E0)) w)
  (k3 (upd 0 v1 (upd 2 (Value.int IntKind.u16 0) E0)) w)
theorem F99_eq (x0 : Value) (w : World) (Kp : KP) (K : K0) : F99 x0 w Kp K = wpE P [0, 2] (bodyOf Tryz.f99) (postE P Tryz.f99.results.toList Kp K) (List.range 1 ++ [0, 2]) (ε0 #[x0]) w := by kernel_rfl
theorem F99_calls {x0 : Value} {w : World} {Kp : KP} {K : K0} (h : F99 x0 w Kp K) : Calls P 99 #[x0] w (EndsS Kp K) :=
  calls_of follows [0, 2] Tryz.func99 (by kernel_rfl) (by kernel_rfl) (by kernel_rfl) (F99_eq x0 w Kp K ▸ h)

/-- wisp/wispref01.half -/
def F100 (x0 : Value) (w : World) (Kp : KP) (K : K0) : Prop :=
  S P (vbin .quo 3 false true x0 (Value.int IntKind.i64 2)) w Kp fun v1 w =>
  J (fun ε2 w => K (ε2 3) w) fun k3 =>
  S P (vbin .mul 3 true false (Value.int IntKind.i64 2) v1) w Kp fun v4 w =>
  S P (vbin .gtr 3 false false v4 x0) w Kp fun v5 w =>
  C v5 (S P (vbin .sub 3 false true v1 (Value.int IntKind.i64 1)) w Kp fun v6 w =>
  k3 (upd 2 (Value.int IntKind.i64 0) (upd 3 v6 E0)) w)
  (k3 (upd 2 (Value.int IntKind.i64 0) (upd 3 v1 E0)) w)
theorem F100_eq (x0 : Value) (w : World) (Kp : KP) (K : K0) : F100 x0 w Kp K = wpE P [2, 3] (bodyOf Tryz.f100) (postE P Tryz.f100.results.toList Kp K) (List.range 1 ++ [2, 3]) (ε0 #[x0]) w := by kernel_rfl
theorem F100_calls {x0 : Value} {w : World} {Kp : KP} {K : K0} (h : F100 x0 w Kp K) : Calls P 100 #[x0] w (EndsS Kp K) :=
  calls_of follows [2, 3] Tryz.func100 (by kernel_rfl) (by kernel_rfl) (by kernel_rfl) (F100_eq x0 w Kp K ▸ h)

/-- wisp/wispref01.Flag -/
def F101 (x0 : Value) (w : World) (Kp : KP) (K : K0) : Prop :=
  C x0 (K (Value.int IntKind.u16 65535) w)
  (K (Value.int IntKind.u16 0) w)
theorem F101_eq (x0 : Value) (w : World) (Kp : KP) (K : K0) : F101 x0 w Kp K = wpE P [2] (bodyOf Tryz.f101) (postE P Tryz.f101.results.toList Kp K) (List.range 1 ++ [2]) (ε0 #[x0]) w := by kernel_rfl
theorem F101_calls {x0 : Value} {w : World} {Kp : KP} {K : K0} (h : F101 x0 w Kp K) : Calls P 101 #[x0] w (EndsS Kp K) :=
  calls_of follows [2] Tryz.func101 (by kernel_rfl) (by kernel_rfl) (by kernel_rfl) (F101_eq x0 w Kp K ▸ h)

/-- wisp/wispref01.divides -/
def F102 (x0 x1 x2 : Value) (w : World) (Kp : KP) (K : K0) : Prop :=
  S P (vcall (Value.func (Fn.func 98) #[] #[]) #[x1]) w Kp fun v1 w =>
  S P (vcall (Value.func (Fn.func 98) #[] #[]) #[x2]) w Kp fun v2 w =>
  S P (vbin .eql 3 false true x0 (Value.int IntKind.i64 24)) w Kp fun v3 w =>
  C v3 (S P (vcall (Value.func (Fn.func 118) #[] #[]) #[v1, v2]) w Kp fun v4 w =>
  S P (vcall (Value.func (Fn.func 99) #[] #[]) #[v4]) w Kp fun v5 w =>
  K v5 w)
  (S P (vbin .eql 3 false true x0 (Value.int IntKind.i64 25)) w Kp fun v6 w =>
  C v6 (S P (vcall (Value.func (Fn.func 118) #[] #[]) #[v1, v2]) w Kp fun v7 w =>
  S P (vbin .mul 3 false false v7 v2) w Kp fun v8 w =>
  S P (vbin .sub 3 false false v1 v8) w Kp fun v9 w =>
  S P (vcall (Value.func (Fn.func 99) #[] #[]) #[v9]) w Kp fun v10 w =>
  K v10 w)
  (S P (vbin .eql 3 false true x0 (Value.int IntKind.i64 26)) w Kp fun v11 w =>
  C v11 (S P (vconv 41 3 x1) w Kp fun v12 w =>
  S P (vconv 41 3 x2) w Kp fun v13 w =>
  S P (vbin .quo 3 false false v12 v13) w Kp fun v14 w =>
  S P (vcall (Value.func (Fn.func 99) #[] #[]) #[v14]) w Kp fun v15 w =>
  K v15 w)
  (S P (vconv 41 3 x1) w Kp fun v16 w =>
  S P (vconv 41 3 x1) w Kp fun v17 w =>
  S P (vconv 41 3 x2) w Kp fun v18 w =>
  S P (vbin .quo 3 false false v17 v18) w Kp fun v19 w =>
  S P (vconv 41 3 x2) w Kp fun v20 w =>
  S P (vbin .mul 3 false false v19 v20) w Kp fun v21 w =>
  S P (vbin .sub 3 false false v16 v21) w Kp fun v22 w =>
  S P (vcall (Value.func (Fn.func 99) #[] #[]) #[v22]) w Kp fun v23 w =>
  K v23 w)))
theorem F102_eq (x0 x1 x2 : Value) (w : World) (Kp : KP) (K : K0) : F102 x0 x1 x2 w Kp K = wpE P [1, 2, 6] (bodyOf Tryz.f102) (postE P Tryz.f102.results.toList Kp K) (List.range 3 ++ [1, 2, 6]) (ε0 #[x0, x1, x2]) w := by kernel_rfl
theorem F102_calls {x0 x1 x2 : Value} {w : World} {Kp : KP} {K : K0} (h : F102 x0 x1 x2 w Kp K) : Calls P 102 #[x0, x1, x2] w (EndsS Kp K) :=
  calls_of follows [1, 2, 6] Tryz.func102 (by kernel_rfl) (by kernel_rfl) (by kernel_rfl) (F102_eq x0 x1 x2 w Kp K ▸ h)

/-- wisp/wispref01.bits -/
def F103 (x0 x1 x2 : Value) (w : World) (Kp : KP) (K : K0) : Prop :=
  ∃ I μ, LoopE I μ (fun K2 ε1 w =>
  S P (vbin .lss 3 false true (ε1 8) (Value.int IntKind.i64 16)) w Kp fun v3 w =>
  C v3 (J (fun ε4 w => S P (vbin .add 3 false true (ε4 8) (Value.int IntKind.i64 1)) w Kp fun v6 w =>
  S P (vbin .mul 3 false true (ε4 9) (Value.int IntKind.i64 2)) w Kp fun v7 w =>
  K2 (upd 0 (ε4 0) (upd 1 (ε4 1) (upd 2 (ε4 2) (upd 6 (ε4 6) (upd 7 (ε4 7) (upd 8 v6 (upd 9 v7 E0))))))) w) fun k5 =>
  S P (vconv 41 3 (ε1 1)) w Kp fun v8 w =>
  S P (vbin .quo 3 false false v8 (ε1 9)) w Kp fun v9 w =>
  S P (vbin .rem 3 false true v9 (Value.int IntKind.i64 2)) w Kp fun v10 w =>
  S P (vconv 41 3 (ε1 2)) w Kp fun v11 w =>
  S P (vbin .quo 3 false false v11 (ε1 9)) w Kp fun v12 w =>
  S P (vbin .rem 3 false true v12 (Value.int IntKind.i64 2)) w Kp fun v13 w =>
  S P (vbin .eql 3 false true (ε1 0) (Value.int IntKind.i64 36)) w Kp fun v14 w =>
  GS v14 true P (vmove v10) w Kp fun v15 w =>
  GS v14 true P (vmove v13) w Kp fun v16 w =>
  GS v14 true P (vbin .add 3 false false v15 v16) w Kp fun v17 w =>
  GS v14 true P (vbin .eql 3 false true v17 (Value.int IntKind.i64 2)) w Kp fun v18 w =>
  S P (vpick v14 v18 (Value.bool false)) w Kp fun v19 w =>
  GS v19 false P (vmove (ε1 0)) w Kp fun v20 w =>
  GS v19 false P (vbin .eql 3 false true v20 (Value.int IntKind.i64 37)) w Kp fun v21 w =>
  GS v19 false P (vmove v21) w Kp fun v22 w =>
  GS v22 true P (vmove v10) w Kp fun v23 w =>
  GS v22 true P (vmove v13) w Kp fun v24 w =>
  GS v22 true P (vbin .add 3 false false v23 v24) w Kp fun v25 w =>
  GS v22 true P (vbin .gtr 3 false true v25 (Value.int IntKind.i64 0)) w Kp fun v26 w =>
  GS v19 false P (vpick v22 v26 (Value.bool false)) w Kp fun v27 w =>
  S P (vpick v19 (Value.bool true) v27) w Kp fun v28 w =>
  GS v28 false P (vmove (ε1 0)) w Kp fun v29 w =>
  GS v28 false P (vbin .eql 3 false true v29 (Value.int IntKind.i64 38)) w Kp fun v30 w =>
  GS v28 false P (vmove v30) w Kp fun v31 w =>
  GS v31 true P (vmove v10) w Kp fun v32 w =>
  GS v31 true P (vmove v13) w Kp fun v33 w =>
  GS v31 true P (vbin .add 3 false false v32 v33) w Kp fun v34 w =>
  GS v31 true P (vbin .eql 3 false true v34 (Value.int IntKind.i64 1)) w Kp fun v35 w =>
  GS v28 false P (vpick v31 v35 (Value.bool false)) w Kp fun v36 w =>
  S P (vpick v28 (Value.bool true) v36) w Kp fun v37 w =>
  C v37 (S P (vbin .add 3 false false (ε1 7) (ε1 9)) w Kp fun v38 w =>
  k5 (upd 0 (ε1 0) (upd 1 (ε1 1) (upd 2 (ε1 2) (upd 6 (ε1 6) (upd 7 v38 (upd 8 (ε1 8) (upd 9 (ε1 9) E0))))))) w)
  (k5 (upd 0 (ε1 0) (upd 1 (ε1 1) (upd 2 (ε1 2) (upd 6 (ε1 6) (upd 7 (ε1 7) (upd 8 (ε1 8) (upd 9 (ε1 9) E0))))))) w))
  (S P (vcall (Value.func (Fn.func 99) #[] #[]) #[(ε1 7)]) w Kp fun v39 w =>
  K v39 w)) (upd 0 x0 (upd 1 x1 (upd 2 x2 (upd 6 (Value.int IntKind.u16 0) (upd 7 (Value.int IntKind.i64 0) (upd 8 (Value.int IntKind.i64 0) (upd 9 (Value.int IntKind.i64 1) E0))))))) w
theorem F103_eq (x0 x1 x2 : Value) (w : World) (Kp : KP) (K : K0) : F103 x0 x1 x2 w Kp K = wpE P [0, 1, 2, 6, 7, 8, 9] (bodyOf Tryz.f103) (postE P Tryz.f103.results.toList Kp K) (List.range 3 ++ [0, 1, 2, 6, 7, 8, 9]) (ε0 #[x0, x1, x2]) w := by kernel_rfl
theorem F103_calls {x0 x1 x2 : Value} {w : World} {Kp : KP} {K : K0} (h : F103 x0 x1 x2 w Kp K) : Calls P 103 #[x0, x1, x2] w (EndsS Kp K) :=
  calls_of follows [0, 1, 2, 6, 7, 8, 9] Tryz.func103 (by kernel_rfl) (by kernel_rfl) (by kernel_rfl) (F103_eq x0 x1 x2 w Kp K ▸ h)

/-- wisp/wispref01.power -/
def F104 (x0 : Value) (w : World) (Kp : KP) (K : K0) : Prop :=
  ∃ I μ, LoopE I μ (fun K2 ε1 w =>
  S P (vbin .lss 3 false false (ε1 4) (ε1 0)) w Kp fun v3 w =>
  C v3 (S P (vbin .mul 3 true false (Value.int IntKind.i64 2) (ε1 3)) w Kp fun v4 w =>
  S P (vbin .add 3 false true (ε1 4) (Value.int IntKind.i64 1)) w Kp fun v5 w =>
  K2 (upd 0 (ε1 0) (upd 2 (ε1 2) (upd 3 v4 (upd 4 v5 E0)))) w)
  (K (ε1 3) w)) (upd 0 x0 (upd 2 (Value.int IntKind.i64 0) (upd 3 (Value.int IntKind.i64 1) (upd 4 (Value.int IntKind.i64 0) E0)))) w
theorem F104_eq (x0 : Value) (w : World) (Kp : KP) (K : K0) : F104 x0 w Kp K = wpE P [0, 2, 3, 4] (bodyOf Tryz.f104) (postE P Tryz.f104.results.toList Kp K) (List.range 1 ++ [0, 2, 3, 4]) (ε0 #[x0]) w := by kernel_rfl
theorem F104_calls {x0 : Value} {w : World} {Kp : KP} {K : K0} (h : F104 x0 w Kp K) : Calls P 104 #[x0] w (EndsS Kp K) :=
  calls_of follows [0, 2, 3, 4] Tryz.func104 (by kernel_rfl) (by kernel_rfl) (by kernel_rfl) (F104_eq x0 w Kp K ▸ h)

/-- wisp/wispref01.quotient -/
def F118 (x0 x1 : Value) (w : World) (Kp : KP) (K : K0) : Prop :=
  S P (vcall (Value.func (Fn.func 147) #[] #[]) #[x0]) w Kp fun v1 w =>
  S P (vcall (Value.func (Fn.func 147) #[] #[]) #[x1]) w Kp fun v2 w =>
  S P (vbin .quo 3 false false v1 v2) w Kp fun v3 w =>
  S P (vbin .lss 3 false true x0 (Value.int IntKind.i64 0)) w Kp fun v4 w =>
  S P (vbin .lss 3 false true x1 (Value.int IntKind.i64 0)) w Kp fun v5 w =>
  S P (vbin .neq 4 false false v4 v5) w Kp fun v6 w =>
  C v6 (S P (vun .neg v3) w Kp fun v7 w =>
  K v7 w)
  (K v3 w)
theorem F118_eq (x0 x1 : Value) (w : World) (Kp : KP) (K : K0) : F118 x0 x1 w Kp K = wpE P [4, 5] (bodyOf Tryz.f118) (postE P Tryz.f118.results.toList Kp K) (List.range 2 ++ [4, 5]) (ε0 #[x0, x1]) w := by kernel_rfl
theorem F118_calls {x0 x1 : Value} {w : World} {Kp : KP} {K : K0} (h : F118 x0 x1 w Kp K) : Calls P 118 #[x0, x1] w (EndsS Kp K) :=
  calls_of follows [4, 5] Tryz.func118 (by kernel_rfl) (by kernel_rfl) (by kernel_rfl) (F118_eq x0 x1 w Kp K ▸ h)

/-- wisp/wispref01.away -/
def F147 (x0 : Value) (w : World) (Kp : KP) (K : K0) : Prop :=
  S P (vbin .lss 3 false true x0 (Value.int IntKind.i64 0)) w Kp fun v1 w =>
  C v1 (S P (vun .neg x0) w Kp fun v2 w =>
  K v2 w)
  (K x0 w)
theorem F147_eq (x0 : Value) (w : World) (Kp : KP) (K : K0) : F147 x0 w Kp K = wpE P [0, 2] (bodyOf Tryz.f147) (postE P Tryz.f147.results.toList Kp K) (List.range 1 ++ [0, 2]) (ε0 #[x0]) w := by kernel_rfl
theorem F147_calls {x0 : Value} {w : World} {Kp : KP} {K : K0} (h : F147 x0 w Kp K) : Calls P 147 #[x0] w (EndsS Kp K) :=
  calls_of follows [0, 2] Tryz.func147 (by kernel_rfl) (by kernel_rfl) (by kernel_rfl) (F147_eq x0 w Kp K ▸ h)

/-- (*wisp/wisplaw06.world).near -/
def F40 (x0 x1 : Value) (w : World) (Kp : KP) (K : K0) : Prop :=
  ∃ I μ, LoopE I μ (fun K2 ε1 w =>
  S P (vblt .len #[22] 3 #[false] #[(ε1 1)]) w Kp fun v3 w =>
  S P (vbin .lss 3 false false (ε1 5) v3) w Kp fun v4 w =>
  GS v4 true P (vmove (ε1 5)) w Kp fun v5 w =>
  GS v4 true P (vbin .lss 3 false true v5 (Value.int IntKind.i64 4)) w Kp fun v6 w =>
  S P (vpick v4 v6 (Value.bool false)) w Kp fun v7 w =>
  C v7 (∃ H8 : World → Prop, H8 (drewW w) ∧
  Fl P H8 (vnil (ε1 0)) fun v9 =>
  Fl P H8 (vfield 39 v9 2) fun v10 =>
  Fl P H8 (vload 34 v10) fun v11 =>
  Fl P H8 (vixA 22 (ε1 1) (ε1 5)) fun v12 =>
  Fl P H8 (vload 41 v12) fun v13 =>
  Fl P H8 (vnil (ε1 0)) fun v14 =>
  Fl P H8 (vfield 39 v14 5) fun v15 =>
  Fl P H8 (vload 37 v15) fun v16 =>
  Fl P H8 (vixA 22 (ε1 1) (ε1 5)) fun v17 =>
  Fl P H8 (vload 41 v17) fun v18 =>
  S P (vcall (Value.func (Fn.func 71) #[] #[]) #[v11, v13]) (drewW w) Kp fun v19 w =>
  H8 w ∧ S P (vcall (Value.func (Fn.func 72) #[] #[]) #[v16, v18]) w Kp fun v20 w =>
  H8 w ∧ Fl P H8 (vbin .neq 41 false false v19 v20) fun v21 =>
  GF v21 false P H8 (vmove (ε1 0)) fun v22 =>
  GF v21 false P H8 (vnil v22) fun v23 =>
  GF v21 false P H8 (vfield 39 v23 2) fun v24 =>
  GF v21 false P H8 (vload 34 v24) fun v25 =>
  GF v21 false P H8 (vmove (ε1 1)) fun v26 =>
  GF v21 false P H8 (vmove (ε1 5)) fun v27 =>
  GF v21 false P H8 (vixA 22 v26 v27) fun v28 =>
  GF v21 false P H8 (vload 41 v28) fun v29 =>
  GF v21 false P H8 (vbin .add 41 false true v29 (Value.int IntKind.u16 1)) fun v30 =>
  GF v21 false P H8 (vmove (ε1 0)) fun v31 =>
  GF v21 false P H8 (vnil v31) fun v32 =>
  GF v21 false P H8 (vfield 39 v32 5) fun v33 =>
  GF v21 false P H8 (vload 37 v33) fun v34 =>
  GF v21 false P H8 (vmove (ε1 1)) fun v35 =>
  GF v21 false P H8 (vmove (ε1 5)) fun v36 =>
  GF v21 false P H8 (vixA 22 v35 v36) fun v37 =>
  GF v21 false P H8 (vload 41 v37) fun v38 =>
  GF v21 false P H8 (vbin .add 41 false true v38 (Value.int IntKind.u16 1)) fun v39 =>
  GS v21 false P (vcall (Value.func (Fn.func 71) #[] #[]) #[v25, v30]) w Kp fun v40 w =>
  H8 w ∧ GS v21 false P (vcall (Value.func (Fn.func 72) #[] #[]) #[v34, v39]) w Kp fun v41 w =>
  H8 w ∧ GF v21 false P H8 (vbin .neq 41 false false v40 v41) fun v42 =>
  Fl P H8 (vpick v21 (Value.bool true) v42) fun v43 =>
  C v43 (K (Value.bool false) w)
  (S P (vbin .add 3 false true (ε1 5) (Value.int IntKind.i64 1)) w Kp fun v44 w =>
  K2 (upd 0 (ε1 0) (upd 1 (ε1 1) (upd 4 (ε1 4) (upd 5 v44 (upd 6 (ε1 6) (upd 7 (ε1 7) E0)))))) w))
  (S P (vbuildS 22 5 #[(0, (Value.int IntKind.u16 65280)), (1, (Value.int IntKind.u16 65282)), (2, (Value.int IntKind.u16 65284)), (3, (Value.int IntKind.u16 65286)), (4, (Value.int IntKind.u16 65288))]) w Kp fun v45 w =>
  ∃ I μ, LoopE I μ (fun K47 ε46 w =>
  S P (vblt .len #[22] 3 #[false] #[(ε46 6)]) w Kp fun v48 w =>
  S P (vbin .lss 3 false false (ε46 7) v48) w Kp fun v49 w =>
  C v49 (∃ H50 : World → Prop, H50 (drewW w) ∧
  Fl P H50 (vnil (ε46 0)) fun v51 =>
  Fl P H50 (vfield 39 v51 2) fun v52 =>
  Fl P H50 (vload 34 v52) fun v53 =>
  Fl P H50 (vixA 22 (ε46 6) (ε46 7)) fun v54 =>
  Fl P H50 (vload 41 v54) fun v55 =>
  Fl P H50 (vnil (ε46 0)) fun v56 =>
  Fl P H50 (vfield 39 v56 5) fun v57 =>
  Fl P H50 (vload 37 v57) fun v58 =>
  Fl P H50 (vixA 22 (ε46 6) (ε46 7)) fun v59 =>
  Fl P H50 (vload 41 v59) fun v60 =>
  S P (vcall (Value.func (Fn.func 71) #[] #[]) #[v53, v55]) (drewW w) Kp fun v61 w =>
  H50 w ∧ S P (vcall (Value.func (Fn.func 72) #[] #[]) #[v58, v60]) w Kp fun v62 w =>
  H50 w ∧ Fl P H50 (vbin .neq 41 false false v61 v62) fun v63 =>
  C v63 (K (Value.bool false) w)
  (S P (vbin .add 3 false true (ε46 7) (Value.int IntKind.i64 1)) w Kp fun v64 w =>
  K47 (upd 0 (ε46 0) (upd 1 (ε46 1) (upd 4 (ε46 4) (upd 5 (ε46 5) (upd 6 (ε46 6) (upd 7 v64 E0)))))) w))
  (S P (vnil (ε46 0)) w Kp fun v65 w =>
  S P (vfield 39 v65 2) w Kp fun v66 w =>
  S P (vload 34 v66) w Kp fun v67 w =>
  S P (vcall (Value.func (Fn.func 50) #[] #[]) #[v67]) w Kp fun v68 w =>
  S P (vnil (ε46 0)) w Kp fun v69 w =>
  S P (vfield 39 v69 5) w Kp fun v70 w =>
  S P (vload 37 v70) w Kp fun v71 w =>
  S P (vnil v71) w Kp fun v72 w =>
  S P (vfield 69 v72 9) w Kp fun v73 w =>
  S P (vload 67 v73) w Kp fun v74 w =>
  S P (vcall (Value.func (Fn.func 51) #[] #[]) #[v68, v74]) w Kp fun v75 w =>
  K v75 w)) (upd 0 (ε1 0) (upd 1 (ε1 1) (upd 4 (ε1 4) (upd 5 (ε1 5) (upd 6 v45 (upd 7 (Value.int IntKind.i64 0) E0)))))) w)) (upd 0 x0 (upd 1 x1 (upd 4 (Value.bool false) (upd 5 (Value.int IntKind.i64 0) (upd 6 undef (upd 7 undef E0)))))) w
theorem F40_eq (x0 x1 : Value) (w : World) (Kp : KP) (K : K0) : F40 x0 x1 w Kp K = wpE P [0, 1, 4, 5, 6, 7] (bodyOf Tryz.f40) (postE P Tryz.f40.results.toList Kp K) (List.range 2 ++ [0, 1, 4, 5, 6, 7]) (ε0 #[x0, x1]) w := by kernel_rfl
theorem F40_calls {x0 x1 : Value} {w : World} {Kp : KP} {K : K0} (h : F40 x0 x1 w Kp K) : Calls P 40 #[x0, x1] w (EndsS Kp K) :=
  calls_of follows [0, 1, 4, 5, 6, 7] Tryz.func40 (by kernel_rfl) (by kernel_rfl) (by kernel_rfl) (F40_eq x0 x1 w Kp K ▸ h)

/-- (*wisp/wisplaw06.world).stacks -/
def F12 (x0 : Value) (w : World) (Kp : KP) (K : K0) : Prop :=
  ∃ H1 : World → Prop, H1 (drewW w) ∧
  Fl P H1 (vnil x0) fun v2 =>
  Fl P H1 (vfield 39 v2 0) fun v3 =>
  Fl P H1 (vload 32 v3) fun v4 =>
  Fl P H1 (vnil x0) fun v5 =>
  Fl P H1 (vfield 39 v5 1) fun v6 =>
  Fl P H1 (vload 33 v6) fun v7 =>
  S P (vcall (Value.func (Fn.func 17) #[] #[]) #[v4]) (drewW w) Kp fun v8 w =>
  H1 w ∧ S P (vcall (Value.func (Fn.func 18) #[] #[]) #[v7]) w Kp fun v9 w =>
  H1 w ∧ S P (vnil x0) w Kp fun v10 w =>
  S P (vfield 39 v10 3) w Kp fun v11 w =>
  S P (vload 35 v11) w Kp fun v12 w =>
  S P (vnil v12) w Kp fun v13 w =>
  S P (vfield 85 v13 0) w Kp fun v14 w =>
  S P (vload 22 v14) w Kp fun v15 w =>
  S P (vcall (Value.func (Fn.func 35) #[] #[]) #[v8, v15]) w Kp fun v16 w =>
  GS v16 true P (vmove v9) w Kp fun v17 w =>
  GS v16 true P (vmove x0) w Kp fun v18 w =>
  GS v16 true P (vnil v18) w Kp fun v19 w =>
  GS v16 true P (vfield 39 v19 4) w Kp fun v20 w =>
  GS v16 true P (vload 36 v20) w Kp fun v21 w =>
  GS v16 true P (vnil v21) w Kp fun v22 w =>
  GS v16 true P (vfield 87 v22 0) w Kp fun v23 w =>
  GS v16 true P (vload 23 v23) w Kp fun v24 w =>
  GS v16 true P (vcall (Value.func (Fn.func 46) #[] #[]) #[v17, v24]) w Kp fun v25 w =>
  S P (vpick v16 v25 (Value.bool false)) w Kp fun v26 w =>
  K v26 w
theorem F12_eq (x0 : Value) (w : World) (Kp : KP) (K : K0) : F12 x0 w Kp K = wpE P [2] (bodyOf Tryz.f12) (postE P Tryz.f12.results.toList Kp K) (List.range 1 ++ [2]) (ε0 #[x0]) w := by kernel_rfl
theorem F12_calls {x0 : Value} {w : World} {Kp : KP} {K : K0} (h : F12 x0 w Kp K) : Calls P 12 #[x0] w (EndsS Kp K) :=
  calls_of follows [2] Tryz.func12 (by kernel_rfl) (by kernel_rfl) (by kernel_rfl) (F12_eq x0 w Kp K ▸ h)

/-- (*wisp/wisplaw06.world).does -/
def F9 (x0 x1 : Value) (w : World) (Kp : KP) (K : K0) : Prop :=
  S P (vnil x0) w Kp fun v1 w =>
  S P (vfield 39 v1 3) w Kp fun v2 w =>
  S P (vload 35 v2) w Kp fun v3 w =>
  S P (vnil v3) w Kp fun v4 w =>
  S P (vfield 85 v4 0) w Kp fun v5 w =>
  S P (vload 22 v5) w Kp fun v6 w =>
  S P (vblt .len #[22] 3 #[false] #[v6]) w Kp fun v7 w =>
  S P (vbuildS 22 0 #[]) w Kp fun v8 w =>
  S P (vnil x0) w Kp fun v9 w =>
  S P (vfield 39 v9 3) w Kp fun v10 w =>
  S P (vload 35 v10) w Kp fun v11 w =>
  S P (vnil v11) w Kp fun v12 w =>
  S P (vfield 85 v12 0) w Kp fun v13 w =>
  S P (vload 22 v13) w Kp fun v14 w =>
  S P (vbin .sub 3 false true v7 (Value.int IntKind.i64 3)) w Kp fun v15 w =>
  S P (vblt .max #[3, 3] 3 #[true, false] #[(Value.int IntKind.i64 0), v15]) w Kp fun v16 w =>
  S P (vslice 22 v14 (some v16) none none) w Kp fun v17 w =>
  S P (vblt .append #[22, 22] 22 #[false, false] #[v8, v17]) w Kp fun v18 w =>
  ∃ H19 : World → Prop, H19 (drewW w) ∧
  Fl P H19 (vnil x0) fun v20 =>
  Fl P H19 (vfield 39 v20 0) fun v21 =>
  Fl P H19 (vload 32 v21) fun v22 =>
  Fl P H19 (vnil x0) fun v23 =>
  Fl P H19 (vfield 39 v23 1) fun v24 =>
  Fl P H19 (vload 33 v24) fun v25 =>
  Fl P H19 (vnil x0) fun v26 =>
  Fl P H19 (vfield 39 v26 2) fun v27 =>
  Fl P H19 (vload 34 v27) fun v28 =>
  S P (vcall (Value.func (Fn.func 10) #[] #[]) #[x1, v22, v25, v28]) (drewW w) Kp fun v29 w =>
  H19 w ∧ ∃ H30 : World → Prop, H30 (drewW w) ∧
  Fl P H30 (vnil x0) fun v31 =>
  Fl P H30 (vfield 39 v31 3) fun v32 =>
  Fl P H30 (vload 35 v32) fun v33 =>
  Fl P H30 (vnil x0) fun v34 =>
  Fl P H30 (vfield 39 v34 4) fun v35 =>
  Fl P H30 (vload 36 v35) fun v36 =>
  Fl P H30 (vnil x0) fun v37 =>
  Fl P H30 (vfield 39 v37 5) fun v38 =>
  Fl P H30 (vload 37 v38) fun v39 =>
  S P (vcall (Value.func (Fn.func 39) #[] #[]) #[x1, v33, v36, v39]) (drewW w) Kp fun v40 w =>
  H30 w ∧ S P (vbin .eql 3 false false v29 v40) w Kp fun v41 w =>
  GS v41 true P (vmove x0) w Kp fun v42 w =>
  GS v41 true P (vcall (Value.func (Fn.func 12) #[] #[]) #[v42]) w Kp fun v43 w =>
  S P (vpick v41 v43 (Value.bool false)) w Kp fun v44 w =>
  GS v44 true P (vmove x0) w Kp fun v45 w =>
  GS v44 true P (vmove v18) w Kp fun v46 w =>
  GS v44 true P (vcall (Value.func (Fn.func 40) #[] #[]) #[v45, v46]) w Kp fun v47 w =>
  S P (vpick v44 v47 (Value.bool false)) w Kp fun v48 w =>
  K v48 w
theorem F9_eq (x0 x1 : Value) (w : World) (Kp : KP) (K : K0) : F9 x0 x1 w Kp K = wpE P [4] (bodyOf Tryz.f9) (postE P Tryz.f9.results.toList Kp K) (List.range 2 ++ [4]) (ε0 #[x0, x1]) w := by kernel_rfl
theorem F9_calls {x0 x1 : Value} {w : World} {Kp : KP} {K : K0} (h : F9 x0 x1 w Kp K) : Calls P 9 #[x0, x1] w (EndsS Kp K) :=
  calls_of follows [4] Tryz.func9 (by kernel_rfl) (by kernel_rfl) (by kernel_rfl) (F9_eq x0 x1 w Kp K ▸ h)

/-- wisp/wisplaw06.born -/
def F8 (x0 x1 : Value) (w : World) (Kp : KP) (K : K0) : Prop :=
  S P (vbuildS 22 0 #[]) w Kp fun v1 w =>
  S P (vblt .len #[22] 3 #[false] #[x0]) w Kp fun v2 w =>
  S P (vblt .min #[3, 3] 3 #[false, true] #[v2, (Value.int IntKind.i64 256)]) w Kp fun v3 w =>
  S P (vslice 22 x0 none (some v3) none) w Kp fun v4 w =>
  S P (vblt .append #[22, 22] 22 #[false, false] #[v1, v4]) w Kp fun v5 w =>
  S P (vbuildS 23 0 #[]) w Kp fun v6 w =>
  S P (vblt .len #[23] 3 #[false] #[x1]) w Kp fun v7 w =>
  S P (vblt .min #[3, 3] 3 #[false, true] #[v7, (Value.int IntKind.i64 128)]) w Kp fun v8 w =>
  S P (vslice 23 x1 none (some v8) none) w Kp fun v9 w =>
  S P (vblt .append #[23, 23] 23 #[false, false] #[v6, v9]) w Kp fun v10 w =>
  ∃ I μ, LoopE I μ (fun K12 ε11 w =>
  S P (vblt .len #[23] 3 #[false] #[(ε11 1)]) w Kp fun v13 w =>
  S P (vbin .lss 3 false false (ε11 5) v13) w Kp fun v14 w =>
  C v14 (S P (vixA 23 (ε11 1) (ε11 5)) w Kp fun v15 w =>
  S P (vfield 75 v15 0) w Kp fun v16 w =>
  S P (vload 3 v16) w Kp fun v17 w =>
  S P (vbin .rem 3 false true v17 (Value.int IntKind.i64 4)) w Kp fun v18 w =>
  S P (vbin .add 3 false true v18 (Value.int IntKind.i64 4)) w Kp fun v19 w =>
  S P (vbin .rem 3 false true v19 (Value.int IntKind.i64 4)) w Kp fun v20 w =>
  S P (vbin .add 3 true false (Value.int IntKind.i64 1) v20) w Kp fun v21 w =>
  S P (vixA 23 (ε11 1) (ε11 5)) w Kp fun v22 w =>
  S P (vfield 75 v22 0) w Kp fun v23 w =>
  S P (vstore 3 v23 v21) w Kp fun v24 w =>
  S P (vbin .add 3 false true (ε11 5) (Value.int IntKind.i64 1)) w Kp fun v25 w =>
  K12 (upd 0 (ε11 0) (upd 1 (ε11 1) (upd 4 (ε11 4) (upd 5 v25 (upd 6 (ε11 6) (upd 7 (ε11 7) (upd 10 (ε11 10) (upd 12 (ε11 12) E0)))))))) w)
  (S P (vbuildS 22 0 #[]) w Kp fun v26 w =>
  S P (vblt .append #[22, 22] 22 #[false, false] #[v26, (ε11 0)]) w Kp fun v27 w =>
  S P (vbuildS 23 0 #[]) w Kp fun v28 w =>
  S P (vblt .append #[23, 23] 23 #[false, false] #[v28, (ε11 1)]) w Kp fun v29 w =>
  S P (vcall (Value.func (Fn.func 36) #[] #[]) #[v27, v29]) w Kp fun v30 w =>
  S P (vext v30 0) w Kp fun v31 w =>
  S P (vext v30 1) w Kp fun v32 w =>
  S P (vext v30 2) w Kp fun v33 w =>
  S P (vbuildS 66 3 #[(0, (Value.int IntKind.u8 1)), (1, (Value.int IntKind.u8 2)), (2, (Value.int IntKind.u8 3))]) w Kp fun v34 w =>
  S P (vbuild 79 #[(0, (Value.int IntKind.i64 0)), (1, v34)]) w Kp fun v35 w =>
  S P (vbuildS 66 1 #[(0, (Value.int IntKind.u8 4))]) w Kp fun v36 w =>
  S P (vbuild 79 #[(0, (Value.int IntKind.i64 9)), (1, v36)]) w Kp fun v37 w =>
  S P (vbuildS 65 2 #[(0, v35), (1, v37)]) w Kp fun v38 w =>
  S P (vcall (Value.func (Fn.func 37) #[] #[]) #[v38]) w Kp fun v39 w =>
  S P (vext v39 0) w Kp fun v40 w =>
  S P (vext v39 1) w Kp fun v41 w =>
  S P (vcall (Value.func (Fn.func 38) #[] #[]) #[v38]) w Kp fun v42 w =>
  S P (vext v42 0) w Kp fun v43 w =>
  S P (vext v42 1) w Kp fun v44 w =>
  S P (vbin .eql 32 false true v31 (Value.pointer none)) w Kp fun v45 w =>
  GS v45 false P (vmove v32) w Kp fun v46 w =>
  GS v45 false P (vbin .eql 33 false true v46 (Value.pointer none)) w Kp fun v47 w =>
  S P (vpick v45 (Value.bool true) v47) w Kp fun v48 w =>
  GS v48 false P (vmove v40) w Kp fun v49 w =>
  GS v48 false P (vbin .eql 34 false true v49 (Value.pointer none)) w Kp fun v50 w =>
  S P (vpick v48 (Value.bool true) v50) w Kp fun v51 w =>
  GS v51 false P (vmove v33) w Kp fun v52 w =>
  GS v51 false P (vbin .neq 44 false true v52 (Value.int IntKind.i64 0)) w Kp fun v53 w =>
  S P (vpick v51 (Value.bool true) v53) w Kp fun v54 w =>
  GS v54 false P (vmove v41) w Kp fun v55 w =>
  GS v54 false P (vbin .neq 44 false true v55 (Value.int IntKind.i64 0)) w Kp fun v56 w =>
  S P (vpick v54 (Value.bool true) v56) w Kp fun v57 w =>
  GS v57 false P (vmove v43) w Kp fun v58 w =>
  GS v57 false P (vbin .eql 37 false true v58 (Value.pointer none)) w Kp fun v59 w =>
  S P (vpick v57 (Value.bool true) v59) w Kp fun v60 w =>
  C v60 (K (Value.pointer none) w)
  (S P (vbuild 85 #[(0, (ε11 0))]) w Kp fun v61 w =>
  S P (vbox 85 v61) w Kp fun v62 w =>
  S P (vbuild 87 #[(0, (ε11 1))]) w Kp fun v63 w =>
  S P (vbox 87 v63) w Kp fun v64 w =>
  S P (vbuild 39 #[(0, v31), (1, v32), (2, v40), (3, v62), (4, v64), (5, v43)]) w Kp fun v65 w =>
  S P (vbox 39 v65) w Kp fun v66 w =>
  K v66 w))) (upd 0 v5 (upd 1 v10 (upd 4 (Value.pointer none) (upd 5 (Value.int IntKind.i64 0) (upd 6 undef (upd 7 undef (upd 10 undef (upd 12 undef E0)))))))) w
theorem F8_eq (x0 x1 : Value) (w : World) (Kp : KP) (K : K0) : F8 x0 x1 w Kp K = wpE P [0, 1, 4, 5, 6, 7, 10, 12] (bodyOf Tryz.f8) (postE P Tryz.f8.results.toList Kp K) (List.range 2 ++ [0, 1, 4, 5, 6, 7, 10, 12]) (ε0 #[x0, x1]) w := by kernel_rfl
theorem F8_calls {x0 x1 : Value} {w : World} {Kp : KP} {K : K0} (h : F8 x0 x1 w Kp K) : Calls P 8 #[x0, x1] w (EndsS Kp K) :=
  calls_of follows [0, 1, 4, 5, 6, 7, 10, 12] Tryz.func8 (by kernel_rfl) (by kernel_rfl) (by kernel_rfl) (F8_eq x0 x1 w Kp K ▸ h)

/-- wisp/wisplaw06.fixed -/
def F7 (w : World) (Kp : KP) (K : K0) : Prop :=
  S P (vcall (Value.func (Fn.func 14) #[] #[]) #[(Value.int IntKind.i64 24)]) w Kp fun v1 w =>
  S P (vext v1 0) w Kp fun v2 w =>
  S P (vext v1 1) w Kp fun v3 w =>
  S P (valloc 43) w Kp fun v4 w =>
  S P (vstore 43 v4 v2) w Kp fun v5 w =>
  S P (vcall (Value.func (Fn.func 14) #[] #[]) #[(Value.int IntKind.i64 64)]) w Kp fun v6 w =>
  S P (vext v6 0) w Kp fun v7 w =>
  S P (vext v6 1) w Kp fun v8 w =>
  S P (valloc 43) w Kp fun v9 w =>
  S P (vstore 43 v9 v7) w Kp fun v10 w =>
  S P (vcall (Value.func (Fn.func 33) #[] #[]) #[(Value.string { data := #[50, 100, 117, 112] })]) w Kp fun v11 w =>
  S P (vext v11 0) w Kp fun v12 w =>
  S P (vext v11 1) w Kp fun v13 w =>
  S P (valloc 43) w Kp fun v14 w =>
  S P (vstore 43 v14 v12) w Kp fun v15 w =>
  S P (vbuildS 22 3 #[(0, (Value.int IntKind.u16 1)), (1, (Value.int IntKind.u16 2)), (2, (Value.int IntKind.u16 3))]) w Kp fun v16 w =>
  S P (vcall (Value.func (Fn.func 8) #[] #[]) #[v16, (Value.slice none 0 0)]) w Kp fun v17 w =>
  S P (vbin .eql 26 false true v17 (Value.pointer none)) w Kp fun v18 w =>
  C v18 (K (Value.bool false) w)
  (∃ H19 : World → Prop, H19 (drewW w) ∧
  Fl P H19 (vnil v17) fun v20 =>
  Fl P H19 (vfield 39 v20 0) fun v21 =>
  Fl P H19 (vload 32 v21) fun v22 =>
  Fl P H19 (vnil v17) fun v23 =>
  Fl P H19 (vfield 39 v23 1) fun v24 =>
  Fl P H19 (vload 33 v24) fun v25 =>
  Fl P H19 (vnil v17) fun v26 =>
  Fl P H19 (vfield 39 v26 2) fun v27 =>
  Fl P H19 (vload 34 v27) fun v28 =>
  S P (vcall (Value.func (Fn.func 10) #[] #[]) #[(Value.int IntKind.i64 16), v22, v25, v28]) (drewW w) Kp fun v29 w =>
  H19 w ∧ S P (vnil v17) w Kp fun v30 w =>
  S P (vfield 39 v30 0) w Kp fun v31 w =>
  S P (vload 32 v31) w Kp fun v32 w =>
  S P (vcall (Value.func (Fn.func 17) #[] #[]) #[v32]) w Kp fun v33 w =>
  GS (Value.bool true) true P (vmove v3) w Kp fun v34 w =>
  GS (Value.bool true) true P (vbin .eql 44 false true v34 (Value.int IntKind.i64 0)) w Kp fun v35 w =>
  S P (vpick (Value.bool true) v35 (Value.bool false)) w Kp fun v36 w =>
  GS v36 true P (vmove v8) w Kp fun v37 w =>
  GS v36 true P (vbin .eql 44 false true v37 (Value.int IntKind.i64 60)) w Kp fun v38 w =>
  S P (vpick v36 v38 (Value.bool false)) w Kp fun v39 w =>
  GS v39 true P (vload 43 v4) w Kp fun v40 w =>
  GS v39 true P (vbuild 43 #[(0, (Value.int IntKind.i64 24)), (1, (Value.string { data := #[47] })), (2, (Value.int IntKind.i64 2)), (3, (Value.int IntKind.i64 1)), (4, (Value.int IntKind.i64 4))]) w Kp fun v41 w =>
  GS v39 true P (vcall (Value.func (Fn.func 34) #[] #[]) #[v40, v41]) w Kp fun v42 w =>
  S P (vpick v39 v42 (Value.bool false)) w Kp fun v43 w =>
  GS v43 true P (vmove v13) w Kp fun v44 w =>
  S P (vpick v43 v44 (Value.bool false)) w Kp fun v45 w =>
  GS v45 true P (vload 43 v14) w Kp fun v46 w =>
  GS v45 true P (vbuild 43 #[(0, (Value.int IntKind.i64 19)), (1, (Value.string { data := #[50, 100, 117, 112] })), (2, (Value.int IntKind.i64 2)), (3, (Value.int IntKind.i64 4)), (4, (Value.int IntKind.i64 2))]) w Kp fun v47 w =>
  GS v45 true P (vcall (Value.func (Fn.func 34) #[] #[]) #[v46, v47]) w Kp fun v48 w =>
  S P (vpick v45 v48 (Value.bool false)) w Kp fun v49 w =>
  GS v49 true P (vmove v29) w Kp fun v50 w =>
  GS v49 true P (vbin .eql 30 false true v50 (Value.int IntKind.i64 0)) w Kp fun v51 w =>
  S P (vpick v49 v51 (Value.bool false)) w Kp fun v52 w =>
  GS v52 true P (vmove v33) w Kp fun v53 w =>
  GS v52 true P (vbuildS 22 3 #[(0, (Value.int IntKind.u16 2)), (1, (Value.int IntKind.u16 3)), (2, (Value.int IntKind.u16 1))]) w Kp fun v54 w =>
  GS v52 true P (vcall (Value.func (Fn.func 35) #[] #[]) #[v53, v54]) w Kp fun v55 w =>
  S P (vpick v52 v55 (Value.bool false)) w Kp fun v56 w =>
  GS v56 true P (vcall (Value.func (Fn.func 11) #[] #[]) #[(Value.int IntKind.i64 16)]) w Kp fun v57 w =>
  S P (vpick v56 v57 (Value.bool false)) w Kp fun v58 w =>
  GS v58 true P (vcall (Value.func (Fn.func 11) #[] #[]) #[(Value.int IntKind.i64 3)]) w Kp fun v59 w =>
  GS v58 true P (vun .not v59) w Kp fun v60 w =>
  S P (vpick v58 v60 (Value.bool false)) w Kp fun v61 w =>
  K v61 w)
theorem F7_eq (w : World) (Kp : KP) (K : K0) : F7  w Kp K = wpE P [0, 1, 2, 4, 5, 6, 7] (bodyOf Tryz.f7) (postE P Tryz.f7.results.toList Kp K) (List.range 0 ++ [0, 1, 2, 4, 5, 6, 7]) (ε0 #[]) w := by kernel_rfl
theorem F7_calls {w : World} {Kp : KP} {K : K0} (h : F7  w Kp K) : Calls P 7 #[] w (EndsS Kp K) :=
  calls_of follows [0, 1, 2, 4, 5, 6, 7] Tryz.func7 (by kernel_rfl) (by kernel_rfl) (by kernel_rfl) (F7_eq  w Kp K ▸ h)

/-- wisp/wisplaw06.PrimEach -/
def F3 (x0 x1 x2 : Value) (w : World) (Kp : KP) (K : K0) : Prop :=
  S P (vcall (Value.func (Fn.func 7) #[] #[]) #[]) w Kp fun v1 w =>
  S P (vun .not v1) w Kp fun v2 w =>
  C v2 (K (Value.bool false) w)
  (S P (vbuildS 25 1 #[(0, x2)]) w Kp fun v3 w =>
  ∃ I μ, LoopE I μ (fun K5 ε4 w =>
  S P (vbin .lss 3 false true (ε4 8) (Value.int IntKind.i64 66)) w Kp fun v6 w =>
  C v6 (S P (vbuildS 25 1 #[(0, (ε4 8))]) w Kp fun v7 w =>
  S P (vblt .append #[25, 25] 25 #[false, false] #[(ε4 7), v7]) w Kp fun v8 w =>
  S P (vbin .add 3 false true (ε4 8) (Value.int IntKind.i64 1)) w Kp fun v9 w =>
  K5 (upd 0 (ε4 0) (upd 1 (ε4 1) (upd 2 (ε4 2) (upd 6 (ε4 6) (upd 7 v8 (upd 8 v9 (upd 9 (ε4 9) (upd 10 (ε4 10) E0)))))))) w)
  (∃ I μ, LoopE I μ (fun K11 ε10 w =>
  S P (vblt .len #[25] 3 #[false] #[(ε10 7)]) w Kp fun v12 w =>
  S P (vbin .lss 3 false false (ε10 9) v12) w Kp fun v13 w =>
  C v13 (S P (vcall (Value.func (Fn.func 8) #[] #[]) #[(ε10 0), (ε10 1)]) w Kp fun v14 w =>
  S P (vbin .eql 26 false true v14 (Value.pointer none)) w Kp fun v15 w =>
  C v15 (K (Value.bool false) w)
  (S P (vixA 25 (ε10 7) (ε10 9)) w Kp fun v16 w =>
  S P (vload 3 v16) w Kp fun v17 w =>
  S P (vcall (Value.func (Fn.func 9) #[] #[]) #[v14, v17]) w Kp fun v18 w =>
  S P (vun .not v18) w Kp fun v19 w =>
  C v19 (K (Value.bool false) w)
  (S P (vbin .add 3 false true (ε10 9) (Value.int IntKind.i64 1)) w Kp fun v20 w =>
  K11 (upd 0 (ε10 0) (upd 1 (ε10 1) (upd 2 (ε10 2) (upd 6 (ε10 6) (upd 7 (ε10 7) (upd 8 (ε10 8) (upd 9 v20 (upd 10 v14 E0)))))))) w)))
  (K (Value.bool true) w)) (upd 0 (ε4 0) (upd 1 (ε4 1) (upd 2 (ε4 2) (upd 6 (ε4 6) (upd 7 (ε4 7) (upd 8 (ε4 8) (upd 9 (Value.int IntKind.i64 0) (upd 10 (ε4 10) E0)))))))) w)) (upd 0 x0 (upd 1 x1 (upd 2 x2 (upd 6 (Value.bool false) (upd 7 v3 (upd 8 (Value.int IntKind.i64 (-1)) (upd 9 undef (upd 10 undef E0)))))))) w)
theorem F3_eq (x0 x1 x2 : Value) (w : World) (Kp : KP) (K : K0) : F3 x0 x1 x2 w Kp K = wpE P [0, 1, 2, 6, 7, 8, 9, 10] (bodyOf Tryz.f3) (postE P Tryz.f3.results.toList Kp K) (List.range 3 ++ [0, 1, 2, 6, 7, 8, 9, 10]) (ε0 #[x0, x1, x2]) w := by kernel_rfl
theorem F3_calls {x0 x1 x2 : Value} {w : World} {Kp : KP} {K : K0} (h : F3 x0 x1 x2 w Kp K) : Calls P 3 #[x0, x1, x2] w (EndsS Kp K) :=
  calls_of follows [0, 1, 2, 6, 7, 8, 9, 10] Tryz.func3 (by kernel_rfl) (by kernel_rfl) (by kernel_rfl) (F3_eq x0 x1 x2 w Kp K ▸ h)

end Go.Proofs.YtebmnfmiphbgdaaGreatDoor
namespace Go.Proofs.YtebmnfmiphbgdaaGreatDoor
open Go.Sh
section
variable {w w0 : World} {Kp : KP} {K : K0} {B : Nat} {T : Store}
theorem inner_spec {b o : Nat} (k : K (ptr b o) w) : Calls P 53 #[ptr b o] w (EndsS Kp K) := by
  refine F53_calls ?_
  unfold F53
  repeat' (with_reducible first
    | refine C_f ?_
    | (apply S_R; first | exact R_nil _ | exact R_eqlp32 _ _ _ _ | exact R_f134_0 _ _))
  exact k
theorem inner_nil (k : K nilp w) : Calls P 53 #[nilp] w (EndsS Kp K) := by
  refine F53_calls ?_
  unfold F53
  repeat' (with_reducible first
    | refine C_t ?_
    | (apply S_R; exact R_eqln32 _ _))
  exact k
theorem room_spec {d o : Nat} {cs : Array Value} {e : Nat} {fr : Nat × Nat} {a : Option Addr} {n c : Nat} {m lim : Int}
    (hd : w.heap[d]? = some (.cells cs e fr)) (hs : nth cs.toList o = some (.slice a n c)) (hn : n ≤ 1000) (hl : 0 ≤ lim ∧ lim ≤ 1000) (k1 : m ≤ lim - n → K (.bool true) w) (k2 : ¬ m ≤ lim - n → K (.bool false) w) :
    Calls P 84 #[ptr d o, i64 m, i64 lim] w (EndsS Kp K) := by
  refine F84_calls ?_
  unfold F84
  repeat' (with_reducible first
    | refine GS_t ?_
    | refine S_leq (fun hc => ?_) (fun hc => ?_)
    | (apply S_R; first | exact R_move _ | exact R_nil _ | exact R_neqp121 _ _ _ _ | exact R_f132_0 _ _ | exact R_lenS Tryz.underlying22 | exact R_subi (by omega) | exact R_pick_t _ _)
    | refine S_loadB pl22 (by first | assumption | exact heap_old (by assumption) (by assumption)) (by first | assumption | (with_unfolding_all exact rfl)) ?_)
  · exact k1 hc
  · exact k2 hc
theorem own_slice {e sz n : Nat} {sv : Value} {xs : List Value} (h : w.ownsRow 0 e sz sv n xs) : ∃ a c, sv = .slice a n c ∧ n ≤ c := by
  rcases h.2 with ⟨rfl, rfl⟩ | ⟨g, cap, cur, rfl, _, _, hc, _⟩
  · exact ⟨none, 0, rfl, Nat.le_refl _⟩
  · exact ⟨_, cap, rfl, hc⟩
theorem put_spec {d t n m : Nat} {xs ys : List Value} {lim : Int} {a : Addr} {c : Nat} (h : Rep B w0 T w) (hT : T d = some (pile 41 1 t xs n)) (hl : 0 ≤ lim ∧ lim ≤ 1000) (hn : (n : Int) ≤ lim)
    (hy : ys.length = m) (hm : m ≤ 100000) (hz : ∀ j u, ys[j]? = some u → w.cell? (a.add j) = some u) (h1 : ∀ u ∈ ys, u.oneCell' = true)
    (k1 : (m : Int) ≤ lim - n → ∀ w', Rep B w0 (upT T d (pile 41 1 t (xs ++ ys) (n + m))) w' → K (.bool true) w') (k2 : ¬ (m : Int) ≤ lim - n → K (.bool false) w) :
    Calls P 57 #[ptr d 0, i64 lim, .slice (some a) m c] w (EndsS Kp K) := by
  obtain ⟨sv, hd, hown, hne, hlt, hupd⟩ := h.pile hT
  obtain ⟨sa, sc, rfl, hsc⟩ := own_slice hown
  refine F57_calls ?_
  unfold F57
  repeat' (with_reducible first
    | refine C_t ?_
    | refine C_f ?_
    | refine S_eql (fun hc => ?_) (fun hc => ?_)
    | (apply S_R; exact R_lenS Tryz.underlying22))
  · have h0 : m = 0 := by omega
    subst h0
    have : ys = [] := List.eq_nil_of_length_eq_zero hy
    subst this
    exact k1 (by omega) w (by simp only [List.append_nil, Nat.add_zero]; rw [upT_eq hT]; exact h)
  · refine S_c84 (room_spec hd rfl (by omega) hl (fun hc1 => ?_) (fun hc1 => ?_))
    · repeat' (with_reducible first
   | refine C_f ?_
   | (apply S_R; first | exact R_nil _ | exact R_not_t | exact R_f132_0 _ _)
   | refine S_loadB pl22 (by first | assumption | exact heap_old (by assumption) (by assumption)) (by first | assumption | (with_unfolding_all exact rfl)) ?_)
      refine S_append (base := 0) (m := m) Tryz.underlying22 in41 rfl rfl (by decide) hown (by show ys.length = m * 1; omega) hz h1 (by simp only [maxLen]; omega) (by show (n + m) * 2 ≤ _; omega) (Nat.zero_le _) ?_
      intro v' w1 hown1 hg hnil hblk
      have hd1 : w1.heap[d]? = some (.cells #[.slice sa n sc] t (0, 0)) := by rw [hg.block d hlt (fun e => hne e.symm)]; exact hd
      have hv1 : v'.oneCell' = true := by obtain ⟨_, _, rfl, _⟩ := own_slice hown1; rfl
      repeat' (with_reducible first
        | (apply S_R; first | exact R_nil _ | exact R_f132_0 _ _)
        | refine S_storeB sz22 (by first | assumption | exact heap_old (by assumption) (by assumption)) (by first | assumption | with_unfolding_all exact Nat.le_of_ble_eq_true rfl) (by first | assumption | (with_unfolding_all exact rfl)) ?_)
      exact k1 hc1 _ (hupd _ _ _ _ hown1 hg hblk)
    · repeat' (with_reducible first
   | refine C_t ?_
   | (apply S_R; exact R_not_f))
      exact k2 hc1
theorem size_spec {d t n : Nat} {xs : List Value} (h : Rep B w0 T w) (hT : T d = some (pile 41 1 t xs n)) (k : K (i64 n) w) : Calls P 74 #[ptr d 0] w (EndsS Kp K) := by
  obtain ⟨sv, hd, hown, hne, hlt, hupd⟩ := h.pile hT
  obtain ⟨sa, sc, rfl, hsc⟩ := own_slice hown
  refine F74_calls ?_
  unfold F74
  repeat' (with_reducible first
    | refine C_f ?_
    | (apply S_R; first | exact R_nil _ | exact R_eqlp121 _ _ _ _ | exact R_f132_0 _ _ | exact R_lenS Tryz.underlying22)
    | refine S_loadB pl22 (by first | assumption | exact heap_old (by assumption) (by assumption)) (by first | assumption | (with_unfolding_all exact rfl)) ?_)
  exact k
theorem own_cell {e sz n : Nat} {sa : Option Addr} {sc : Nat} {xs : List Value} (h : w.ownsRow 0 e sz (.slice sa n sc) n xs) (hn : 0 < n) :
    ∃ g, sa = some ⟨g, 0, none⟩ ∧ ∀ j u, xs[j]? = some u → w.cell? ⟨g, j, none⟩ = some u := by
  rcases h.2 with ⟨_, rfl⟩ | ⟨g, cap, cur, he, _⟩
  · omega
  · simp only [Value.slice.injEq] at he
    obtain ⟨rfl, -, rfl⟩ := he
    refine ⟨g, rfl, fun j u hu => ?_⟩
    have := h.cells (g := g) rfl j u hu
    rwa [Addr.add_mid, Nat.zero_add] at this
theorem own_less {e sz n m : Nat} {sa : Option Addr} {sc : Nat} {xs : List Value} (h : w.ownsRow 0 e sz (.slice sa n sc) n xs) (hm : m ≤ n) : w.ownsRow 0 e sz (.slice sa m sc) m (xs.take (m * sz)) := by
  have hlen := h.1
  rcases h.2 with ⟨he, rfl⟩ | ⟨g, cap, cur, he, hb, hg, h1, h2, h3, h4⟩
  · simp only [Value.slice.injEq] at he
    obtain ⟨rfl, -, rfl⟩ := he
    have : m = 0 := by omega
    subst this
    simpa using World.ownsRow_nil w 0 e sz
  · simp only [Value.slice.injEq] at he
    obtain ⟨rfl, -, rfl⟩ := he
    have hmul : m * sz ≤ n * sz := Nat.mul_le_mul_right _ hm
    refine ⟨by rw [List.length_take, hlen]; omega, .inr ⟨g, sc, cur, rfl, hb, hg, by omega, h2, h3, ?_⟩⟩
    rw [← h4, List.take_take, Nat.min_eq_left hmul]
theorem take_spec {d t n : Nat} {xs : List Value} {x : Value} (h : Rep B w0 T w) (hT : T d = some (pile 41 1 t (xs ++ [x]) (n + 1))) (hn : n ≤ 1000)
    (k : ∀ w', Rep B w0 (upT T d (pile 41 1 t xs n)) w' → K x w') : Calls P 148 #[ptr d 0] w (EndsS Kp K) := by
  obtain ⟨sv, hd, hown, hne, hlt, hupd⟩ := h.pile hT
  obtain ⟨sa, sc, rfl, hsc⟩ := own_slice hown
  obtain ⟨g, rfl, hcell⟩ := own_cell hown (by omega)
  have hlen : xs.length = n := by have := hown.1; simp at this; omega
  have hx := hcell n x (by simp [hlen])
  have hless := own_less hown (m := n) (by omega)
  have htk : (xs ++ [x]).take (n * 1) = xs := by rw [Nat.mul_one, ← hlen]; simp
  rw [htk] at hless
  have hup := hupd _ w _ _ hless (grownBy_refl _ _) (.inl rfl)
  refine F148_calls ?_
  unfold F148
  repeat' (with_reducible first
    | (apply S_R; first | exact R_nil _ | exact R_f132_0 _ _ | exact R_lenS Tryz.underlying22 | exact R_subi (by omega) | exact R_ixA Tryz.underlying22 sz41 (by omega) (by omega))
    | refine S_loadB pl22 (by first | assumption | exact heap_old (by assumption) (by assumption)) (by first | assumption | (with_unfolding_all exact rfl)) ?_)
  have e1 : 0 + (((n + 1 : Nat) : Int) - 1).toNat * 1 = n := by omega
  rw [e1]
  refine S_load pl41 hx ?_
  repeat' (with_reducible first
    | (apply S_R; first | exact R_nil _ | exact R_f132_0 _ _ | exact R_sliceTo Tryz.underlying22 sz41 (by omega) (by omega))
    | refine S_loadB pl22 (by first | assumption | exact heap_old (by assumption) (by assumption)) (by first | assumption | (with_unfolding_all exact rfl)) ?_
    | refine S_storeB sz22 (by first | assumption | exact heap_old (by assumption) (by assumption)) (by first | assumption | with_unfolding_all exact Nat.le_of_ble_eq_true rfl) (by first | assumption | (with_unfolding_all exact rfl)) ?_)
  have e2 : (((n + 1 : Nat) : Int) - 1).toNat = n := by omega
  rw [e2]
  exact k _ hup
theorem need_spec {d t n : Nat} {xs : List Value} {i o : Int} (h : Rep B w0 T w) (hT : T d = some (pile 41 1 t xs n)) (hn : n ≤ 1000) (hi : 0 ≤ i ∧ i ≤ 1000) (ho : 0 ≤ o ∧ o ≤ 1000)
    (k : ∀ f : Int, f = (if (n : Int) < i then 1 else if o > 256 - (n - i) then 2 else 0) → K (i64 f) w) : Calls P 42 #[ptr d 0, i64 i, i64 o] w (EndsS Kp K) := by
  refine F42_calls ?_
  unfold F42
  repeat' (with_reducible (apply S_R; exact R_max))
  rw [show (if (0 : Int) > i then 0 else i) = i by split <;> omega, show (if (0 : Int) > o then 0 else o) = o by split <;> omega]
  refine S_c53 (inner_spec ?_)
  refine S_c74 (size_spec h hT ?_)
  repeat' (with_reducible first
    | refine C_t ?_
    | refine C_f ?_
    | refine S_gtr (fun hc => ?_) (fun hc => ?_)
    | refine S_lss (fun hc => ?_) (fun hc => ?_)
    | (apply S_R; exact R_subi (by omega)))
  · exact k _ (by rw [if_pos (by omega)])
  · exact k _ (by rw [if_neg (by omega), if_pos (by omega)])
  · exact k _ (by rw [if_neg (by omega), if_neg (by omega)])
theorem pop_spec {d t n : Nat} {xs : List Value} {x : Value} (h : Rep B w0 T w) (hT : T d = some (pile 41 1 t (xs ++ [x]) (n + 1))) (hn : n ≤ 1000)
    (k : ∀ w', Rep B w0 (upT T d (pile 41 1 t xs n)) w' → K x w') : Calls P 123 #[ptr d 0] w (EndsS Kp K) := by
  refine F123_calls ?_
  unfold F123
  refine S_c53 (inner_spec ?_)
  refine S_c74 (size_spec h hT ?_)
  repeat' (with_reducible first
    | refine C_f ?_
    | refine S_eql_f (by omega) ?_)
  refine S_c148 (take_spec h hT hn k)
theorem pop_none {d t : Nat} (h : Rep B w0 T w) (hT : T d = some (pile 41 1 t [] 0)) (k : K (u16 0) w) : Calls P 123 #[ptr d 0] w (EndsS Kp K) := by
  refine F123_calls ?_
  unfold F123
  refine S_c53 (inner_spec ?_)
  refine S_c74 (size_spec h hT ?_)
  repeat' (with_reducible first
    | refine C_t ?_
    | refine S_eql_t (by omega) ?_)
  exact k
theorem push_spec {d t n m : Nat} {xs ys : List Value} {a : Addr} {c : Nat} (h : Rep B w0 T w) (hT : T d = some (pile 41 1 t xs n)) (hn : n ≤ 256)
    (hy : ys.length = m) (hm : m ≤ 100000) (hz : ∀ j u, ys[j]? = some u → w.cell? (a.add j) = some u) (h1 : ∀ u ∈ ys, u.oneCell' = true)
    (k1 : n + m ≤ 256 → ∀ w', Rep B w0 (upT T d (pile 41 1 t (xs ++ ys) (n + m))) w' → K (i64 0) w') (k2 : ¬ n + m ≤ 256 → K (i64 2) w) :
    Calls P 26 #[ptr d 0, .slice (some a) m c] w (EndsS Kp K) := by
  refine F26_calls ?_
  unfold F26
  refine S_c53 (inner_spec ?_)
  refine S_c57 (put_spec h hT (by omega) (by omega) hy hm hz h1 (fun hc w' h' => ?_) (fun hc => ?_))
  · repeat' (with_reducible first
   | refine C_f ?_
   | (apply S_R; exact R_not_t))
    exact k1 (by omega) w' h'
  · repeat' (with_reducible first
   | refine C_t ?_
   | (apply S_R; exact R_not_f))
    exact k2 (by omega)
end
end Go.Proofs.YtebmnfmiphbgdaaGreatDoor
namespace Go.Proofs.YtebmnfmiphbgdaaGreatDoor
open Go.Sh
def enc : List RC2 → List Value
  | [] => []
  | c :: l => i64 c.1 :: u16 c.2 :: enc l
theorem enc_len : ∀ l : List RC2, (enc l).length = l.length * 2
  | [] => rfl
  | c :: l => by simp only [enc, List.length_cons, enc_len l]; omega
theorem enc_append : ∀ l m : List RC2, enc (l ++ m) = enc l ++ enc m
  | [], m => rfl
  | c :: l, m => by simp only [List.cons_append, enc, enc_append l m]
theorem enc_get : ∀ (l : List RC2) (i : Nat) (c : RC2), l[i]? = some c → (enc l)[i * 2]? = some (i64 c.1) ∧ (enc l)[i * 2 + 1]? = some (u16 c.2)
  | [], i, c, h => by simp at h
  | c :: l, 0, d, h => by simp at h; subst h; exact ⟨rfl, rfl⟩
  | c :: l, i + 1, d, h => by
    have := enc_get l i d (by simpa using h)
    have e : (i + 1) * 2 = i * 2 + 2 := by omega
    rw [e]
    simpa [enc] using this
theorem enc_one : ∀ (l : List RC2) (u : Value), u ∈ enc l → u.oneCell' = true
  | [], u, h => by cases h
  | c :: l, u, h => by
    simp only [enc, List.mem_cons] at h
    rcases h with rfl | rfl | h
    · rfl
    · rfl
    · exact enc_one l u h
abbrev rets (t : Nat) (cs : List RC2) : Ob := pile 75 2 t (enc cs) cs.length
abbrev datas (t : Nat) (ds : List Int) : Ob := pile 41 1 t (ds.map (Value.int .u16)) ds.length
section
variable {w w0 : World} {Kp : KP} {K : K0} {B : Nat} {T : Store}
theorem innerR_spec {b o : Nat} (k : K (ptr b o) w) : Calls P 55 #[ptr b o] w (EndsS Kp K) := by
  refine F55_calls ?_
  unfold F55
  repeat' (with_reducible first
    | refine C_f ?_
    | (apply S_R; first | exact R_nil _ | exact R_eqlp33 _ _ _ _ | exact R_f138_0 _ _))
  exact k
theorem roomR_spec {d o : Nat} {cs : Array Value} {e : Nat} {fr : Nat × Nat} {a : Option Addr} {n c : Nat} {m lim : Int}
    (hd : w.heap[d]? = some (.cells cs e fr)) (hs : nth cs.toList o = some (.slice a n c)) (hn : n ≤ 1000) (hl : 0 ≤ lim ∧ lim ≤ 1000) (k1 : m ≤ lim - n → K (.bool true) w) (k2 : ¬ m ≤ lim - n → K (.bool false) w) :
    Calls P 85 #[ptr d o, i64 m, i64 lim] w (EndsS Kp K) := by
  refine F85_calls ?_
  unfold F85
  repeat' (with_reducible first
    | refine GS_t ?_
    | refine S_leq (fun hc => ?_) (fun hc => ?_)
    | (apply S_R; first | exact R_move _ | exact R_nil _ | exact R_neqp123 _ _ _ _ | exact R_f136_0 _ _ | exact R_lenS Tryz.underlying23 | exact R_subi (by omega) | exact R_pick_t _ _)
    | refine S_loadB pl23 (by first | assumption | exact heap_old (by assumption) (by assumption)) (by first | assumption | (with_unfolding_all exact rfl)) ?_)
  · exact k1 hc
  · exact k2 hc
theorem putR_spec {d t m : Nat} {xs ys : List RC2} {lim : Int} {a : Addr} {c : Nat} (h : Rep B w0 T w) (hT : T d = some (rets t xs)) (hl : 0 ≤ lim ∧ lim ≤ 1000) (hn : (xs.length : Int) ≤ lim)
    (hy : ys.length = m) (hm : m ≤ 100000) (hz : ∀ j u, (enc ys)[j]? = some u → w.cell? (a.add j) = some u)
    (k1 : (m : Int) ≤ lim - xs.length → ∀ w', Rep B w0 (upT T d (rets t (xs ++ ys))) w' → K (.bool true) w') (k2 : ¬ (m : Int) ≤ lim - xs.length → K (.bool false) w) :
    Calls P 58 #[ptr d 0, i64 lim, .slice (some a) m c] w (EndsS Kp K) := by
  obtain ⟨sv, hd, hown, hne, hlt, hupd⟩ := h.pile hT
  obtain ⟨sa, sc, rfl, hsc⟩ := own_slice hown
  refine F58_calls ?_
  unfold F58
  repeat' (with_reducible first
    | refine C_t ?_
    | refine C_f ?_
    | refine S_eql (fun hc => ?_) (fun hc => ?_)
    | (apply S_R; exact R_lenS Tryz.underlying23))
  · have h0 : m = 0 := by omega
    subst h0
    have : ys = [] := List.eq_nil_of_length_eq_zero hy
    subst this
    exact k1 (by omega) w (by simp only [List.append_nil]; rw [upT_eq hT]; exact h)
  · refine S_c85 (roomR_spec hd rfl (by omega) hl (fun hc1 => ?_) (fun hc1 => ?_))
    · repeat' (with_reducible first
   | refine C_f ?_
   | (apply S_R; first | exact R_nil _ | exact R_not_t | exact R_f136_0 _ _)
   | refine S_loadB pl23 (by first | assumption | exact heap_old (by assumption) (by assumption)) (by first | assumption | (with_unfolding_all exact rfl)) ?_)
      refine S_append (base := 0) (m := m) Tryz.underlying23 in75 rfl rfl (by decide) hown (by show (enc ys).length = m * 2; rw [enc_len]; omega) hz (enc_one ys) (by simp only [maxLen]; omega) (by show (xs.length + m) * 16 ≤ _; omega) (Nat.zero_le _) ?_
      intro v' w1 hown1 hg hnil hblk
      have hd1 : w1.heap[d]? = some (.cells #[.slice sa xs.length sc] t (0, 0)) := by rw [hg.block d hlt (fun e => hne e.symm)]; exact hd
      have hv1 : v'.oneCell' = true := by obtain ⟨_, _, rfl, _⟩ := own_slice hown1; rfl
      repeat' (with_reducible first
        | (apply S_R; first | exact R_nil _ | exact R_f136_0 _ _)
        | refine S_storeB sz23 (by first | assumption | exact heap_old (by assumption) (by assumption)) (by first | assumption | with_unfolding_all exact Nat.le_of_ble_eq_true rfl) (by first | assumption | (with_unfolding_all exact rfl)) ?_)
      refine k1 hc1 _ ?_
      have := hupd _ _ _ _ hown1 hg hblk
      rw [← enc_append] at this
      show Rep B w0 (upT T d (pile 75 2 t (enc (xs ++ ys)) (xs ++ ys).length)) _
      rw [List.length_append, hy]
      exact this
    · repeat' (with_reducible first
   | refine C_t ?_
   | (apply S_R; exact R_not_f))
      exact k2 hc1
theorem sizeR_spec {d t n : Nat} {xs : List Value} (h : Rep B w0 T w) (hT : T d = some (pile 75 2 t xs n)) (k : K (i64 n) w) : Calls P 76 #[ptr d 0] w (EndsS Kp K) := by
  obtain ⟨sv, hd, hown, hne, hlt, hupd⟩ := h.pile hT
  obtain ⟨sa, sc, rfl, hsc⟩ := own_slice hown
  refine F76_calls ?_
  unfold F76
  repeat' (with_reducible first
    | refine C_f ?_
    | (apply S_R; first | exact R_nil _ | exact R_eqlp123 _ _ _ _ | exact R_f136_0 _ _ | exact R_lenS Tryz.underlying23)
    | refine S_loadB pl23 (by first | assumption | exact heap_old (by assumption) (by assumption)) (by first | assumption | (with_unfolding_all exact rfl)) ?_)
  exact k
theorem pushR_spec {d t m : Nat} {xs ys : List RC2} {a : Addr} {c : Nat} (h : Rep B w0 T w) (hT : T d = some (rets t xs)) (hn : xs.length ≤ 128)
    (hy : ys.length = m) (hm : m ≤ 100000) (hz : ∀ j u, (enc ys)[j]? = some u → w.cell? (a.add j) = some u)
    (k1 : xs.length + m ≤ 128 → ∀ w', Rep B w0 (upT T d (rets t (xs ++ ys))) w' → K (i64 0) w') (k2 : ¬ xs.length + m ≤ 128 → K (i64 4) w) :
    Calls P 28 #[ptr d 0, .slice (some a) m c] w (EndsS Kp K) := by
  refine F28_calls ?_
  unfold F28
  refine S_c55 (innerR_spec ?_)
  refine S_c58 (putR_spec h hT (by omega) (by omega) hy hm hz (fun hc w' h' => ?_) (fun hc => ?_))
  · repeat' (with_reducible first
   | refine C_f ?_
   | (apply S_R; exact R_not_t))
    exact k1 (by omega) w' h'
  · repeat' (with_reducible first
   | refine C_t ?_
   | (apply S_R; exact R_not_f))
    exact k2 (by omega)
theorem lenR_spec {d t : Nat} {xs : List RC2} (h : Rep B w0 T w) (hT : T d = some (rets t xs)) (k : K (i64 xs.length) w) : Calls P 44 #[ptr d 0] w (EndsS Kp K) := by
  refine F44_calls ?_
  unfold F44
  refine S_c55 (innerR_spec ?_)
  exact S_c76 (sizeR_spec h hT k)
theorem at_spec {d t : Nat} {xs : List RC2} {j kind : Int} (h : Rep B w0 T w) (hT : T d = some (rets t xs)) (hn : xs.length ≤ 1000) (hj : -1000 ≤ j ∧ j ≤ 1000)
    (k : ∀ w', Rep B w0 T w' → K (.tuple #[u16 (retAt xs j kind).1, i64 (retAt xs j kind).2]) w') : Calls P 75 #[ptr d 0, i64 j, i64 kind] w (EndsS Kp K) := by
  obtain ⟨sv, hd, hown, hne, hlt, hupd⟩ := h.pile hT
  obtain ⟨sa, sc, rfl, hsc⟩ := own_slice hown
  refine F75_calls ?_
  unfold F75
  refine S_c55 (innerR_spec ?_)
  refine S_c113 (F113_calls ?_)
  unfold F113
  by_cases hr : j < 0 ∨ (xs.length : Int) ≤ j
  · have e : retAt xs j kind = (0, 3) := by unfold retAt; rw [if_pos hr]
    rw [e] at k
    by_cases h0 : j < 0
    · repeat' (with_reducible first
   | refine C_t ?_
   | refine GS_t' ?_
   | refine S_lss_t (by omega) ?_
   | (apply S_R; first | exact R_pick_t _ _ | exact R_eqln178 _ _))
      exact k _ h
    · have h1 : (xs.length : Int) ≤ j := by omega
      repeat' (with_reducible first
        | refine GS_f' ?_
        | refine S_lss_f (by omega) ?_
        | (apply S_R; exact R_move _))
      refine S_c76 (sizeR_spec h hT ?_)
      repeat' (with_reducible first
        | refine C_t ?_
        | refine GS_f' ?_
        | refine S_geq_t (by omega) ?_
        | (apply S_R; first | exact R_pick_f _ _ | exact R_eqln178 _ _))
      exact k _ h
  · have h0 : ¬ j < 0 := fun h' => hr (.inl h')
    have h1 : ¬ (xs.length : Int) ≤ j := fun h' => hr (.inr h')
    obtain ⟨g, rfl, hcell⟩ := own_cell hown (by omega)
    obtain ⟨c, hc⟩ : ∃ c, xs[xs.length - 1 - j.toNat]? = some c := ⟨_, List.getElem?_eq_getElem (by omega)⟩
    obtain ⟨e1, e2⟩ := enc_get xs _ c hc
    have hc1 := hcell _ _ e1
    have hc2 := hcell _ _ e2
    repeat' (with_reducible first
      | refine GS_f' ?_
      | refine S_lss_f (by omega) ?_
      | (apply S_R; exact R_move _))
    refine S_c76 (sizeR_spec h hT ?_)
    repeat' (with_reducible first
      | refine C_f ?_
      | refine GS_f' ?_
      | refine S_geq_f (by omega) ?_
      | (apply S_R; exact R_pick_f _ _))
    refine ⟨fun w' => w'.heap[d]? = some (.cells #[sl g 0 xs.length sc] t (0, 0)), hd, ?_⟩
    repeat' (with_reducible first
      | (apply Fl_R; first | exact R_nil _ | exact R_f136_0 _ _ | exact R_lenS Tryz.underlying23 | exact R_subi (by omega) | exact R_ixA Tryz.underlying23 sz75 (by omega) (by omega))
      | refine Fl_loadB pl23 (fun w hw => (by first | assumption | exact hw | exact hw.1 | exact hw.2 | exact hw.2.1 | exact hw.2.2)) (by first | assumption | (with_unfolding_all exact rfl)) ?_)
    have ea : 0 + ((xs.length : Int) - 1 - j).toNat * 2 = (xs.length - 1 - j.toNat) * 2 := by omega
    rw [ea]
    repeat' (with_reducible first
      | refine C_f ?_
      | (apply S_R; first | exact R_nil _ | exact R_eqlp178 _ _ _ _ | exact R_f75_0 _ _))
    refine S_load (w := drewW w) pl3 hc1 ?_
    by_cases hk : c.1 = kind
    · have e : retAt xs j kind = (c.2, 0) := by unfold retAt; rw [if_neg hr, hc]; simp [hk]
      rw [e] at k
      repeat' (with_reducible first
        | refine C_f ?_
        | refine S_neq_f (by omega) ?_
        | (apply S_R; first | exact R_nil _ | exact R_f75_1 _ _))
      refine S_load (w := drewW w) pl41 hc2 ?_
      exact k _ (h.grow (Grow.drew w))
    · have e : retAt xs j kind = (0, 5) := by unfold retAt; rw [if_neg hr, hc]; simp [hk]
      rw [e] at k
      repeat' (with_reducible first
        | refine C_t ?_
        | refine S_neq_t (by omega) ?_)
      exact k _ (h.grow (Grow.drew w))
end
end Go.Proofs.YtebmnfmiphbgdaaGreatDoor
namespace Go.Proofs.YtebmnfmiphbgdaaGreatDoor
open Go.Sh
section
variable {w w0 : World} {Kp : KP} {K : K0} {B : Nat} {T : Store}
theorem enc_take (l m : List RC2) : (enc (l ++ m)).take (l.length * 2) = enc l := by
  rw [enc_append, ← enc_len l, List.take_left]
theorem takeR_spec {d t : Nat} {xs : List RC2} {x : RC2} (h : Rep B w0 T w) (hT : T d = some (rets t (xs ++ [x]))) (hn : xs.length ≤ 1000)
    (k : ∀ v w', Rep B w0 (upT T d (rets t xs)) w' → K v w') : Calls P 167 #[ptr d 0] w (EndsS Kp K) := by
  have hlen : (xs ++ [x]).length = xs.length + 1 := by simp
  obtain ⟨e1, e2⟩ := enc_get (xs ++ [x]) xs.length x (by simp)
  refine F167_calls ?_
  unfold F167
  refine S_allocR zr75 h (fun b w1 hb h1 => ?_)
  have hT1 := look_new (o' := raw (Value.agg #[Value.int IntKind.i64 0, Value.int IntKind.u16 0]).cells 75) hT hb
  obtain ⟨sv, hd, hown, hne, hlt, hupd⟩ := h1.pile hT1
  rw [hlen] at hown
  obtain ⟨sa, sc, rfl, hsc⟩ := own_slice hown
  obtain ⟨g, rfl, hcell⟩ := own_cell hown (by simp)
  repeat' (with_reducible first
    | (apply S_R; first | exact R_nil _ | exact R_f136_0 _ _ | exact R_lenS Tryz.underlying23 | exact R_subi (by omega) | exact R_ixA Tryz.underlying23 sz75 (by omega) (by omega))
    | refine S_loadB pl23 (by first | assumption | exact heap_old (by assumption) (by assumption)) (by first | assumption | (with_unfolding_all exact rfl)) ?_)
  have ea : 0 + (((xs.length + 1 : Nat) : Int) - 1).toNat * 2 = xs.length * 2 := by omega
  rw [ea]
  refine S_loadRowC (cs := [i64 x.1, u16 x.2]) rw75 sz75 (fun j v hj => ?_) ?_
  · match j, hj with
    | 0, hj => simp at hj; subst hj; exact hcell _ _ e1
    | 1, hj => simp at hj; subst hj; exact hcell _ _ e2
  refine S_allocR zr75 h1 (fun b2 w2 hb2 h2 => ?_)
  refine S_storeRowR (cs := #[i64 0, u16 0]) (xs := #[i64 x.1, u16 x.2]) sz75 h2 (upT_same ..) rfl rfl (fun w3 h3 => ?_)
  rw [upT_upT] at h3
  have hT3 := look_new (o' := raw #[i64 x.1, u16 x.2] 75) hT1 hb2
  have hbd : b ≠ d := (ne_new hT hb).symm
  have hb2d : b2 ≠ d := (ne_new hT1 hb2).symm
  have hbb2 : b ≠ b2 := ne_new (upT_same T b _) hb2
  obtain ⟨sv3, hd3, hown3, hne3, hlt3, hupd3⟩ := h3.pile hT3
  rw [hlen] at hown3
  obtain ⟨sa3, sc3, rfl, hsc3⟩ := own_slice hown3
  have hless := own_less hown3 (m := xs.length) (by omega)
  rw [enc_take] at hless
  have h4 := hupd3 _ w3 _ _ hless (grownBy_refl _ _) (.inl (by cases sa3 <;> rfl))
  have em : (((xs.length + 1 : Nat) : Int) - 1).toNat = xs.length := by omega
  repeat' (with_reducible first
    | (apply S_R; first | exact R_nil _ | exact R_f136_0 _ _ | exact R_sliceTo Tryz.underlying23 sz75 (by omega) (by omega))
    | refine S_loadB pl23 (by first | assumption | exact heap_old (by assumption) (by assumption)) (by first | assumption | (with_unfolding_all exact rfl)) ?_
    | refine S_storeB sz23 (by first | assumption | exact heap_old (by assumption) (by assumption)) (by first | assumption | with_unfolding_all exact Nat.le_of_ble_eq_true rfl) (by first | assumption | (with_unfolding_all exact rfl)) ?_)
  rw [em]
  refine S_loadAllR rw75 sz75 h4 (by rw [upT_ne hb2d]; exact upT_same ..) rfl ?_
  refine S_storeRowR (cs := #[i64 0, u16 0]) (xs := #[i64 x.1, u16 x.2]) sz75 h4 (by rw [upT_ne hbd, upT_ne hbb2]; exact upT_same ..) rfl rfl (fun w5 h5 => ?_)
  refine RC_rowR rw75 sz75 h5 (upT_same ..) rfl ?_
  refine k _ w5 ?_
  rw [upT_comm _ hbd.symm, upT_comm _ hbb2.symm, upT_upT] at h5
  have hTb2 : T b2 = none := by rw [upT_ne hbb2.symm] at hb2; exact hb2
  have h6 := h5.drop2 (d := d) (look_none hTb2 hbb2.symm) hb2d
  exact h6.drop2 hb hbd
theorem popR_spec {d t : Nat} {xs : List RC2} {kind : Int} (h : Rep B w0 T w) (hT : T d = some (rets t xs)) (hn : xs.length ≤ 1000)
    (k : ∀ w', Rep B w0 (upT T d (rets t (if (retAt xs 0 kind).2 = 0 then xs.dropLast else xs))) w' → K (.tuple #[u16 (retAt xs 0 kind).1, i64 (retAt xs 0 kind).2]) w') : Calls P 150 #[ptr d 0, i64 kind] w (EndsS Kp K) := by
  refine F150_calls ?_
  unfold F150
  refine S_c75 (at_spec h hT hn (by omega) (fun w1 h1 => ?_))
  repeat' (with_reducible (apply S_R; first | exact R_ext2_0 | exact R_ext2_1))
  unfold J
  repeat' (with_reducible first
    | refine C_t ?_
    | refine C_f ?_
    | refine S_eql (fun hc => ?_) (fun hc => ?_)
    | (apply S_R; first | exact R_nil _ | exact R_f138_0 _ _))
  · rw [hc] at k ⊢
    rw [if_pos rfl] at k
    have hne : xs ≠ [] := by
      intro e; subst e; revert hc; simp [retAt]
    have hx : T d = some (rets t (xs.dropLast ++ [xs.getLast hne])) := by rw [List.dropLast_concat_getLast]; exact hT
    refine S_c167 (takeR_spec h1 hx (by rw [List.length_dropLast]; omega) (fun v w2 h2 => ?_))
    exact k w2 h2
  · rw [if_neg hc, upT_eq hT] at k
    exact k w1 h1
/-- a fresh copy of a row of cells: nil, or a block of its own -/
def Copy (T : Store) (e n : Nat) (xs : List Value) (v : Value) (T' : Store) : Prop :=
  (v = .slice none 0 0 ∧ n = 0 ∧ T' = T) ∨ ∃ b, v = sl b 0 n n ∧ 0 < n ∧ T b = none ∧ T' = upT T b (raw xs.toArray e)
theorem own_cell' {e sz n : Nat} {sa : Option Addr} {sc : Nat} {xs : List Value} (h : w.ownsRow 0 e sz (.slice sa n sc) n xs) (hn : 0 < n) :
    ∃ g, sa = some ⟨g, 0, none⟩ ∧ ∀ j u, xs[j]? = some u → w.cell? ((⟨g, 0, none⟩ : Addr).add j) = some u := by
  obtain ⟨g, rfl, hc⟩ := own_cell h hn
  exact ⟨g, rfl, fun j u hj => by rw [Addr.add_mid, Nat.zero_add]; exact hc j u hj⟩
theorem all_spec {d t : Nat} {ds : List Int} (h : Rep B w0 T w) (hT : T d = some (datas t ds)) (hn : ds.length ≤ 1000)
    (k : ∀ v T' w', Copy T 41 ds.length (ds.map (Value.int .u16)) v T' → Rep B w0 T' w' → K v w') : Calls P 54 #[ptr d 0] w (EndsS Kp K) := by
  refine F54_calls ?_
  unfold F54
  refine S_c74 (size_spec h hT ?_)
  obtain ⟨sv, hd, hown, hne, hlt, hupd⟩ := h.pile hT
  obtain ⟨sa, sc, rfl, hsc⟩ := own_slice hown
  repeat' (with_reducible first
    | refine C_t ?_
    | refine C_f ?_
    | refine S_eql (fun hc => ?_) (fun hc => ?_)
    | (apply S_R; first | exact R_nil _ | exact R_f132_0 _ _ | exact R_lenS Tryz.underlying22)
    | refine S_loadB pl22 (by first | assumption | exact heap_old (by assumption) (by assumption)) (by first | assumption | (with_unfolding_all exact rfl)) ?_)
  · exact k _ _ _ (.inl ⟨rfl, by omega, rfl⟩) h
  · obtain ⟨g, rfl, hcell⟩ := own_cell' hown (by omega)
    refine S_mkS Tryz.underlying22 in41 rfl (by omega) (by omega) (by rw [Int.toNat_natCast]; show ds.length * 1 ≤ _; omega) (by show (2 : Int) * _ ≤ _; omega) (by omega) ?_
    repeat' (with_reducible first
      | (apply S_R; first | exact R_nil _ | exact R_f132_0 _ _)
      | refine S_loadB pl22 (by first | assumption | exact heap_old (by assumption) (by assumption)) (by first | assumption | (with_unfolding_all exact rfl)) ?_)
    rw [Int.toNat_natCast]
    refine S_copyNew (n := ds.length) (cs := ds.map (Value.int .u16)) Tryz.underlying22 sz41 (by simp) (size_madeCells _ _) hcell (by simp [Value.oneCell']) ?_
    exact k _ _ _ (.inr ⟨_, rfl, by omega, h.fresh (Nat.le_refl _), rfl⟩) (h.newRaw _ _)
theorem cells_spec {d t : Nat} {ds : List Int} (h : Rep B w0 T w) (hT : T d = some (datas t ds)) (hn : ds.length ≤ 1000)
    (k : ∀ v T' w', Copy T 41 ds.length (ds.map (Value.int .u16)) v T' → Rep B w0 T' w' → K v w') : Calls P 17 #[ptr d 0] w (EndsS Kp K) := by
  refine F17_calls ?_
  unfold F17
  exact S_c53 (inner_spec (S_c54 (all_spec h hT hn k)))
theorem allR_spec {d t : Nat} {ds : List RC2} (h : Rep B w0 T w) (hT : T d = some (rets t ds)) (hn : ds.length ≤ 1000)
    (k : ∀ v T' w', Copy T 75 ds.length (enc ds) v T' → Rep B w0 T' w' → K v w') : Calls P 56 #[ptr d 0] w (EndsS Kp K) := by
  refine F56_calls ?_
  unfold F56
  refine S_c76 (sizeR_spec h hT ?_)
  obtain ⟨sv, hd, hown, hne, hlt, hupd⟩ := h.pile hT
  obtain ⟨sa, sc, rfl, hsc⟩ := own_slice hown
  repeat' (with_reducible first
    | refine C_t ?_
    | refine C_f ?_
    | refine S_eql (fun hc => ?_) (fun hc => ?_)
    | (apply S_R; first | exact R_nil _ | exact R_f136_0 _ _ | exact R_lenS Tryz.underlying23)
    | refine S_loadB pl23 (by first | assumption | exact heap_old (by assumption) (by assumption)) (by first | assumption | (with_unfolding_all exact rfl)) ?_)
  · exact k _ _ _ (.inl ⟨rfl, by omega, rfl⟩) h
  · obtain ⟨g, rfl, hcell⟩ := own_cell' hown (by omega)
    refine S_mkS Tryz.underlying23 in75 rfl (by omega) (by omega) (by rw [Int.toNat_natCast]; show ds.length * 2 ≤ _; omega) (by show (16 : Int) * _ ≤ _; omega) (by omega) ?_
    repeat' (with_reducible first
      | (apply S_R; first | exact R_nil _ | exact R_f136_0 _ _)
      | refine S_loadB pl23 (by first | assumption | exact heap_old (by assumption) (by assumption)) (by first | assumption | (with_unfolding_all exact rfl)) ?_)
    rw [Int.toNat_natCast]
    refine S_copyNew (n := ds.length) (cs := enc ds) Tryz.underlying23 sz75 (enc_len ds) (size_madeCells _ _) hcell (enc_one ds) ?_
    exact k _ _ _ (.inr ⟨_, rfl, by omega, h.fresh (Nat.le_refl _), rfl⟩) (h.newRaw _ _)
theorem cellsR_spec {d t : Nat} {ds : List RC2} (h : Rep B w0 T w) (hT : T d = some (rets t ds)) (hn : ds.length ≤ 1000)
    (k : ∀ v T' w', Copy T 75 ds.length (enc ds) v T' → Rep B w0 T' w' → K v w') : Calls P 18 #[ptr d 0] w (EndsS Kp K) := by
  refine F18_calls ?_
  unfold F18
  exact S_c55 (innerR_spec (S_c56 (allR_spec h hT hn k)))
end
end Go.Proofs.YtebmnfmiphbgdaaGreatDoor
namespace Go.Proofs.YtebmnfmiphbgdaaGreatDoor
open Go.Sh
section
variable {w w0 : World} {Kp : KP} {K : K0} {B : Nat} {T : Store}
abbrev memory (M : Mem) : Ob := memO 115 139 120 M
theorem zr116 : (P.info? 116).bind (·.zero) = some nilp := by kernel_rfl
theorem load_spec {d : Nat} {M : Mem} {a : Int} (h : Rep B w0 T w) (hT : T d = some (memory M)) (ha : isC a) (k : ∀ w', Rep B w0 T w' → K (u8 (M.load a)) w') : Calls P 105 #[ptr d 0, u16 a] w (EndsS Kp K) := by
  obtain ⟨mb, bl, tv, hm, -⟩ := h.mem hT
  unfold isC at ha
  refine F105_calls ?_
  unfold F105
  repeat' (with_reducible first
    | refine C_t ?_
    | refine C_f ?_
    | refine S_eql (fun hc => ?_) (fun hc => ?_)
    | refine S_lss (fun hc => ?_) (fun hc => ?_)
    | (apply S_R; first | exact R_nil _ | exact R_eqlp34 _ _ _ _ | exact R_f115_3 _ _ | exact R_sub16i (by omega) | exact R_f115_1 _ _ | exact R_arrA Tryz.underlying111 sz5 (by omega) (by omega) | exact R_toI64 Tryz.underlying41 Tryz.underlying3 (by omega) | exact R_f115_2 _ _ | exact R_arrA Tryz.underlying113 sz5 (by omega) (by omega) | exact R_f115_4 _ _ | exact R_f115_6 _ _ | exact R_f115_5 _ _ | exact R_f115_7 _ _))
  · rw [Mem.load_low hc] at k; exact k _ h
  · rename_i hl
    rw [Mem.load_bank hl hc] at k
    cases hb : bankOf M.chosen M.banks with
    | none =>
      rw [hb] at k
      have hf := hm.banks.none hb
      refine ⟨fun w' => w'.heap[d]? = _ ∧ w'.heap[mb]? = _, ⟨hm.cells, hm.map⟩, ?_⟩
      repeat' (with_reducible first
        | refine C_f ?_
        | refine Fl_loadX pl110 (fun w hw => hw.1) memF_map ?_
        | refine Fl_loadX pl5 (fun w hw => hw.1) memF_chosen ?_
        | refine Fl_look2n Tryz.underlying110 Tryz.underlying5 zr116 (fun w hw => hw.2) hf ?_
        | (apply Fl_R; first | exact R_nil _ | exact R_f115_0 _ _ | exact R_f115_3 _ _ | exact R_ext2_0 | exact R_ext2_1))
      exact k _ (h.grow (Grow.drew w))
    | some f =>
      rw [hb] at k
      obtain ⟨b, hbm, hf, hbb, -⟩ := hm.banks.some hb
      refine ⟨fun w' => w'.heap[d]? = _ ∧ w'.heap[mb]? = _, ⟨hm.cells, hm.map⟩, ?_⟩
      repeat' (with_reducible first
        | refine C_t ?_
        | refine Fl_loadX pl110 (fun w hw => hw.1) memF_map ?_
        | refine Fl_loadX pl5 (fun w hw => hw.1) memF_chosen ?_
        | refine Fl_look2s Tryz.underlying110 Tryz.underlying5 zr116 (fun w hw => hw.2) hf ?_
        | (apply S_R; first | exact R_nil _ | exact R_sub16i (by omega) | exact R_arrA Tryz.underlying139 sz5 (by omega) (by omega))
        | (apply Fl_R; first | exact R_nil _ | exact R_f115_0 _ _ | exact R_f115_3 _ _ | exact R_ext2_0 | exact R_ext2_1))
      refine S_loadX pl5 hbb (bytes_getE (i := (a - 16384).toNat) f (by omega) (by omega)) ?_
      exact k _ (h.grow (Grow.drew w))
  · rename_i hl hl2
    rw [Mem.load_ram hl2 hc] at k
    refine S_loadX pl5 hm.cells (memCells_ramE (i := (a - 32768).toNat) (by omega) (by omega)) ?_
    skip
    exact k _ h
  · rename_i hl hl2 hl3
    rw [Mem.load_scr hl3 hc] at k
    refine S_loadX pl5 hm.cells (memCells_scrE (i := (a - 49152).toNat) (by omega) (by omega)) ?_
    skip
    exact k _ h
  all_goals (rw [Mem.load_port (by omega)] at k)
  repeat' (with_reducible first
    | refine S_loadX pl5 hm.cells memF_chosen ?_
    | refine S_loadX pl5 hm.cells memF_pad ?_
    | refine S_loadX pl41 hm.cells memF_pitch ?_
    | refine S_loadX pl5 hm.cells memF_vol ?_
    | refine S_loadX pl41 hm.cells memF_time ?_
    | (apply S_R; first | exact R_toU8 Tryz.underlying41 Tryz.underlying5 | exact R_shr8))
  all_goals
    refine K_int ?_ (k _ h)
    have hp := hm.ok.pitch
    have ht := hm.ok.time
    unfold isC at hp ht
    (repeat' split) <;> omega
theorem own_tones {tt sz n : Nat} {tv : Value} {xs : List Value} (h : w.ownsRow 0 tt sz tv n xs) : tv.oneCell' = true := by
  rcases h.2 with ⟨rfl, rfl⟩ | ⟨g, cap, cur, rfl, _⟩ <;> rfl
theorem store_spec {d : Nat} {M : Mem} {a x : Int} (h : Rep B w0 T w) (hT : T d = some (memory M)) (ha : isC a) (hx : isB x) (hn : M.tones.length ≤ 100000)
    (k : ∀ w', Rep B w0 (upT T d (memory (M.store a x))) w' → K (.tuple #[]) w') : Calls P 16 #[ptr d 0, u16 a, u8 x] w (EndsS Kp K) := by
  obtain ⟨mb, bl, tv, hm, hlt, upd, updB, updT⟩ := h.mem hT
  have hok := hm.ok.store (a := a) hx
  have hp := hm.ok.pitch
  unfold isC at ha hp
  unfold isB at hx
  refine F16_calls ?_
  unfold F16
  repeat' (with_reducible first
    | refine C_t ?_
    | refine C_f ?_
    | refine S_eql (fun hc => ?_) (fun hc => ?_)
    | refine S_lss (fun hc => ?_) (fun hc => ?_)
    | (apply S_R; first | exact R_nil _ | exact R_eqlp34 _ _ _ _ | exact R_f115_3 _ _ | exact R_sub16i (by omega) | exact R_f115_1 _ _ | exact R_arrA Tryz.underlying111 sz5 (by omega) (by omega) | exact R_toI64 Tryz.underlying41 Tryz.underlying3 (by omega) | exact R_f115_2 _ _ | exact R_arrA Tryz.underlying113 sz5 (by omega) (by omega) | exact R_remU (by omega) (by omega) | exact R_f115_6 _ _ | exact R_f115_5 _ _))
  · rw [Mem.store_low hc, upT_eq hT] at k; exact k _ h
  · rename_i hl
    rw [Mem.store_bank hl hc] at k hok
    cases hb : bankOf M.chosen M.banks with
    | none =>
      rw [setBank_none hb, upT_eq hT] at k
      have hf := hm.banks.none hb
      refine ⟨fun w' => w'.heap[d]? = _ ∧ w'.heap[mb]? = _, ⟨hm.cells, hm.map⟩, ?_⟩
      repeat' (with_reducible first
        | refine C_f ?_
        | refine Fl_loadX pl110 (fun w hw => hw.1) memF_map ?_
        | refine Fl_loadX pl5 (fun w hw => hw.1) memF_chosen ?_
        | refine Fl_look2n Tryz.underlying110 Tryz.underlying5 zr116 (fun w hw => hw.2) hf ?_
        | (apply Fl_R; first | exact R_nil _ | exact R_f115_0 _ _ | exact R_f115_3 _ _ | exact R_ext2_0 | exact R_ext2_1))
      exact k _ (h.grow (Grow.drew w))
    | some f =>
      obtain ⟨b, hbm, hf, hr⟩ := hm.banks.some hb
      refine ⟨fun w' => w'.heap[d]? = _ ∧ w'.heap[mb]? = _, ⟨hm.cells, hm.map⟩, ?_⟩
      repeat' (with_reducible first
        | refine C_t ?_
        | refine Fl_loadX pl110 (fun w hw => hw.1) memF_map ?_
        | refine Fl_loadX pl5 (fun w hw => hw.1) memF_chosen ?_
        | refine Fl_look2s Tryz.underlying110 Tryz.underlying5 zr116 (fun w hw => hw.2) hf ?_
        | (apply S_R; first | exact R_nil _ | exact R_sub16i (by omega) | exact R_arrA Tryz.underlying139 sz5 (by omega) (by omega))
        | (apply Fl_R; first | exact R_nil _ | exact R_f115_0 _ _ | exact R_f115_3 _ _ | exact R_ext2_0 | exact R_ext2_1))
      have e : (Sh.bytes 16384 f).toArray.size = 16384 := by rw [List.size_toArray, bytes_len]
      refine S_storeB sz5 (show (drewW w).heap[b]? = _ from hr.1) (by rw [e]; omega) rfl ?_
      rw [List.setIfInBounds_toArray, bytes_set]
      have h2 := updB b (fun f => fset f (a - 16384).toNat x) f hb hf hok
      rw [show 0 + (a - 16384).toNat * 1 = (a - 16384).toNat by omega]
      exact k _ (h2.grow (Grow.drew _))
  · rename_i hl hl2
    rw [Mem.store_ram hl2 hc] at k hok
    refine S_storeB sz5 hm.cells (by rw [mem_size]; omega) rfl ?_
    rw [mem_setRam (i := (a - 32768).toNat) x (by omega) (by omega)]
    exact k _ (upd _ rfl rfl hok)
  · rename_i hl hl2 hl3
    rw [Mem.store_scr hl3 hc] at k hok
    refine S_storeB sz5 hm.cells (by rw [mem_size]; omega) rfl ?_
    rw [mem_setScr (i := (a - 49152).toNat) x (by omega) (by omega)]
    exact k _ (upd _ rfl rfl hok)
  all_goals (rw [Mem.store_port (by omega)] at k hok)
  repeat' (with_reducible first
    | refine S_loadX pl41 hm.cells memF_pitch ?_
    | (apply S_R; first | exact R_nil _ | exact R_f115_6 _ _ | exact R_andHi (by omega) | exact R_andLo (by omega) | exact R_toU16i Tryz.underlying5 Tryz.underlying41 (by omega) | exact R_orHi (by omega) (by omega) | exact R_orLo (by omega) (by omega) | exact R_shl8))
  · rw [if_pos hc] at k hok
    refine S_storeB sz5 hm.cells (by rw [mem_size]; omega) rfl ?_
    rw [mem_set_chosen]
    exact k _ (upd _ rfl rfl hok)
  · rename_i hc0
    rw [if_neg hc0, if_pos hc] at k hok
    refine S_storeB sz41 hm.cells (by rw [mem_size]; omega) rfl ?_
    rw [mem_set_pitch]
    exact k _ (upd _ rfl rfl hok)
  · rename_i hc0 hc1
    rw [if_neg hc0, if_neg hc1, if_pos hc] at k hok
    refine S_storeB sz41 hm.cells (by rw [mem_size]; omega) rfl ?_
    rw [show M.pitch % 256 + x * 256 % 65536 = M.pitch % 256 + 256 * x by omega]
    rw [mem_set_pitch]
    exact k _ (upd _ rfl rfl hok)
  · rename_i hc0 hc1 hc2
    rw [if_neg hc0, if_neg hc1, if_neg hc2, if_pos hc] at k hok
    refine S_storeB sz5 hm.cells (by rw [mem_size]; omega) rfl ?_
    rw [mem_set_vol]
    have h1 := upd { M with vol := x } rfl rfl { hm.ok with vol := hx }
    generalize w.setRow d (memCells mb { M with vol := x } tv).toArray = w1 at h1 ⊢
    obtain ⟨M1, hM⟩ : ∃ M1, M1 = { M with vol := x } := ⟨_, rfl⟩
    rw [← hM] at h1
    clear upd updB updT hm hlt
    obtain ⟨mb, bl, tv, hm, hlt, upd, updB, updT⟩ := h1.mem (upT_same ..)
    refine ⟨fun w' => w'.heap[d]? = _, hm.cells, ?_⟩
    repeat' (with_reducible first
      | refine Fl_loadX pl41 (fun w hw => hw) memF_pitch ?_
      | refine Fl_loadX pl3 (fun w hw => hw) memF_cyc ?_
      | refine Fl_loadX pl67 (fun w hw => hw) memF_tones ?_
      | (apply Fl_R; first | exact R_nil _ | exact R_f115_6 _ _ | exact R_f115_9 _ _ | exact R_f115_8 _ _))
    refine Fl_R (v := .agg #[i64 M1.cyc, u16 M1.pitch, u8 x]) ⟨fun _ => by kernel_rfl⟩ ?_
    refine S_run (v := sl w1.heap.size 0 1 1) (w' := (drewW w1).alloc (.cells #[i64 M1.cyc, u16 M1.pitch, u8 x] 120)) (by kernel_rfl) ?_
    obtain ⟨w2, hw2⟩ : ∃ w2, w2 = (drewW w1).alloc (.cells #[i64 M1.cyc, u16 M1.pitch, u8 x] 120) := ⟨_, rfl⟩
    rw [← hw2]
    have hg2 : Grow w1 w2 := hw2 ▸ (Grow.drew w1).trans (Grow.alloc _ _)
    have hnew : w2.heap[w1.heap.size]? = some (.cells #[i64 M1.cyc, u16 M1.pitch, u8 x] 120 (0, 0)) := hw2 ▸ heap_alloc_new (drewW w1) _
    have hsz2 : w2.heap.size = w1.heap.size + 1 := by rw [hw2]; simp [drewW]
    have hm2 : MemAt 115 139 120 w2 d mb bl tv M1 := hm.same (fun j hj => hg2.block j (hlt j hj))
    refine ⟨hm2.cells, ?_⟩
    have hn1 : M1.tones.length ≤ 100000 := by rw [hM]; exact hn
    refine S_append (base := 0) (m := 1) Tryz.underlying67 in120 rfl rfl (by decide) hm2.own (news := [i64 M1.cyc, u16 M1.pitch, u8 x]) rfl ?_ ?_ (by simp only [maxLen]; omega) (by show (M1.tones.length + 1) * 16 ≤ _; omega) (Nat.zero_le _) ?_
    · intro j u hj
      rw [Addr.add_mid, cell_of_row w2 _ _ _ _ _ hnew]
      simpa using hj
    · intro u hu
      simp only [List.mem_cons, List.not_mem_nil, or_false] at hu
      rcases hu with rfl | rfl | rfl <;> rfl
    intro v' w3 hown3 hg3 hnil hblk
    have hd3 : w3.heap[d]? = some (.cells (memCells mb M1 tv).toArray 115 (0, 0)) := by
      rw [hg3.block d (by have := hlt d (by simp); omega) (fun e => ?_)]
      · exact hm2.cells
      · have := hm.nodup
        simp only [List.nodup_cons, List.mem_cons, List.mem_append, Option.mem_toList, not_or] at this
        exact this.1.2.2 e.symm
    refine ⟨hd3, Fl_R (R_nil _) (Fl_R (R_f115_9 _ _) ?_)⟩
    refine S_storeB sz67 hd3 (by rw [mem_size]; omega) (own_tones hown3) ?_
    rw [mem_set_tones]
    have hg13 : w1.grownBy w3 tv.ownBlock := ⟨hg3.os.trans hg2.os, hg3.tape.trans hg2.tape, hg3.output.trans hg2.output, Nat.le_trans hg2.size hg3.size, fun j hj hne => by rw [hg3.block j (by omega) hne]; exact hg2.block j hj⟩
    have h5 := updT { M1 with tones := M.tones ++ [(M.cyc, M.pitch, x)] } v' w3 rfl (by rw [hM]; exact hok) (by
      show w3.ownsRow 0 120 3 v' (M.tones ++ [(M.cyc, M.pitch, x)]).length (toneCells (M.tones ++ [(M.cyc, M.pitch, x)]))
      rw [toneCells_append, List.length_append]
      subst hM
      exact hown3) hg13 (fun g hg => by
        rcases hblk with e | e
        · exact .inl (by rw [← e]; exact hg)
        · rw [e] at hg; simp only [Option.some.injEq] at hg; exact .inr (by omega))
    rw [upT_upT] at h5
    subst hM
    exact k _ h5
  · rename_i hc0 hc1 hc2
    rw [if_neg hc0, if_neg hc1, if_neg hc2, if_neg hc, upT_eq hT] at k
    exact k _ h
end
end Go.Proofs.YtebmnfmiphbgdaaGreatDoor
namespace Go.Proofs.YtebmnfmiphbgdaaGreatDoor
open Go.Sh
section
variable {w w0 : World} {Kp : KP} {K : K0} {B : Nat} {T : Store}
theorem cell_spec {d : Nat} {M : Mem} {a : Int} (h : Rep B w0 T w) (hT : T d = some (memory M)) (ha : isC a) (k : ∀ w', Rep B w0 T w' → K (u16 (M.cell a)) w') : Calls P 71 #[ptr d 0, u16 a] w (EndsS Kp K) := by
  obtain ⟨mb, bl, tv, hm, -⟩ := h.mem hT
  have h1 := hm.ok.loadB a
  have h2 := hm.ok.loadB ((a + 1) % 65536)
  have ha2 : isC ((a + 1) % 65536) := by unfold isC; omega
  clear hm
  refine F71_calls ?_
  unfold F71
  skip
  refine S_c105 (load_spec h hT ha (fun w1 h3 => ?_))
  unfold isB at h1 h2
  apply S_R (R_toU16i Tryz.underlying5 Tryz.underlying41 (by omega))
  apply S_R R_add16
  refine S_c105 (load_spec h3 hT ha2 (fun w2 h4 => ?_))
  apply S_R (R_toU16i Tryz.underlying5 Tryz.underlying41 (by omega))
  apply S_R R_shl8
  apply S_R (R_orLo (by omega) (by omega))
  refine K_int ?_ (k _ h4)
  unfold Mem.cell; omega
theorem setCell_spec {d : Nat} {M : Mem} {a x : Int} (h : Rep B w0 T w) (hT : T d = some (memory M)) (ha : isC a) (hx : isC x) (hn : M.tones.length ≤ 90000)
    (k : ∀ w', Rep B w0 (upT T d (memory (M.setCell a x))) w' → K (.tuple #[]) w') : Calls P 149 #[ptr d 0, u16 a, u16 x] w (EndsS Kp K) := by
  have ha2 : isC ((a + 1) % 65536) := by unfold isC; omega
  have hlen := M.tones_store a (x % 256)
  unfold isC at hx
  refine F149_calls ?_
  unfold F149
  apply S_R (R_toU8 Tryz.underlying41 Tryz.underlying5)
  refine S_c16 (store_spec h hT ha (by unfold isB; omega) (by omega) (fun w1 h1 => ?_))
  apply S_R (R_add16)
  apply S_R (R_shr8)
  apply S_R (R_toU8i Tryz.underlying41 Tryz.underlying5 (by omega))
  refine S_c16 (store_spec h1 (upT_same ..) ha2 (by unfold isB; omega) (by omega) (fun w2 h2 => ?_))
  rw [upT_upT] at h2
  exact k _ h2
theorem plot_spec {d : Nat} {M : Mem} {x y c : Int} (h : Rep B w0 T w) (hT : T d = some (memory M)) (hx : isC x) (hy : isC y) (hz : isC c) (hn : M.tones.length ≤ 90000)
    (k : ∀ w', Rep B w0 (upT T d (memory (M.plot x y c))) w' → K (.tuple #[]) w') : Calls P 152 #[ptr d 0, u16 x, u16 y, u16 c] w (EndsS Kp K) := by
  unfold isC at hx hy hz
  refine F152_calls ?_
  unfold F152
  repeat' (with_reducible first
    | refine C_t ?_
    | refine C_f ?_
    | refine GS_t ?_
    | refine GS_f ?_
    | refine S_lss (fun hc => ?_) (fun hc => ?_)
    | (apply S_R; first | exact R_move _ | exact R_pick_t _ _ | exact R_pick_f _ _ | exact R_mul16 | exact R_add16i (by omega) | exact R_toU8 Tryz.underlying41 Tryz.underlying5))
  · rename_i hcx
    unfold Mem.plot at k
    rw [if_pos ⟨hcx, hc⟩] at k
    refine S_c16 (store_spec h hT (by unfold isC; omega) (by unfold isB; omega) (by omega) (fun w1 h1 => ?_))
    rw [show 49152 + 64 * y % 65536 + x = 49152 + 64 * y + x by omega] at h1
    exact k _ h1
  · unfold Mem.plot at k
    rw [if_neg (fun e => hc e.2), upT_eq hT] at k
    exact k _ h
  · unfold Mem.plot at k
    rw [if_neg (fun e => hc e.1), upT_eq hT] at k
    exact k _ h
theorem play_spec {d : Nat} {M : Mem} {p v : Int} (h : Rep B w0 T w) (hT : T d = some (memory M)) (hp : isC p) (hv : isB v) (hn : M.tones.length ≤ 90000)
    (k : ∀ w', Rep B w0 (upT T d (memory (M.play p v))) w' → K (.tuple #[]) w') : Calls P 154 #[ptr d 0, u16 p, u8 v] w (EndsS Kp K) := by
  refine F154_calls ?_
  unfold F154
  refine S_c149 (setCell_spec h hT (by unfold isC; omega) hp hn (fun w1 h1 => ?_))
  refine S_c16 (store_spec h1 (upT_same ..) (by unfold isC; omega) hv ?_ (fun w2 h2 => ?_))
  · have h1 := M.tones_store 65284 (p % 256)
    have h2 := (M.store 65284 (p % 256)).tones_store ((65284 + 1) % 65536) (p / 256)
    unfold Mem.setCell; omega
  rw [upT_upT] at h2
  exact k _ h2
theorem choose_spec {d : Nat} {M : Mem} {n : Int} (h : Rep B w0 T w) (hT : T d = some (memory M)) (hp : isC n) (hn : M.tones.length ≤ 90000)
    (k : ∀ w', Rep B w0 (upT T d (memory (M.choose n))) w' → K (.tuple #[]) w') : Calls P 155 #[ptr d 0, u16 n] w (EndsS Kp K) := by
  refine F155_calls ?_
  unfold F155
  apply S_R (R_toU8 Tryz.underlying41 Tryz.underlying5)
  exact S_c16 (store_spec h hT (by unfold isC; omega) (by unfold isB; omega) (by omega) k)
theorem pad_spec {d : Nat} {M : Mem} (h : Rep B w0 T w) (hT : T d = some (memory M)) (k : ∀ w', Rep B w0 T w' → K (u8 M.pad) w') : Calls P 153 #[ptr d 0] w (EndsS Kp K) := by
  refine F153_calls ?_
  unfold F153
  exact S_c105 (load_spec h hT (by unfold isC; omega) k)
theorem begin_spec {d : Nat} {M : Mem} {p : Int} (h : Rep B w0 T w) (hT : T d = some (memory M)) (hp : isB p)
    (k : ∀ w', Rep B w0 (upT T d (memory (M.begin p))) w' → K (.tuple #[]) w') : Calls P 15 #[ptr d 0, u8 p] w (EndsS Kp K) := by
  obtain ⟨mb, bl, tv, hm, hlt, upd, updB, updT⟩ := h.mem hT
  refine F15_calls ?_
  unfold F15
  repeat' (with_reducible first
    | refine C_f ?_
    | refine S_storeB sz5 hm.cells (by rw [mem_size]; omega) rfl ?_
    | (apply S_R; first | exact R_nil _ | exact R_eqlp34 _ _ _ _ | exact R_f115_4 _ _ | exact R_f115_7 _ _))
  rw [mem_set_pad]
  have h1 := upd { M with pad := p } rfl rfl { hm.ok with pad := hp }
  generalize w.setRow d (memCells mb { M with pad := p } tv).toArray = w1 at h1 ⊢
  clear upd updB updT hm hlt
  obtain ⟨mb, bl, tv, hm, hlt, upd, updB, updT⟩ := h1.mem (upT_same ..)
  have ht := hm.ok.time
  refine S_loadX pl41 hm.cells memF_time ?_
  apply S_R R_add16; apply S_R (R_nil _); apply S_R (R_f115_7 _ _)
  refine S_storeB sz41 hm.cells (by rw [mem_size]; omega) rfl ?_
  rw [mem_set_time]
  have h2 := upd { M with pad := p, time := (M.time + 1) % 65536 } rfl rfl { hm.ok with time := by unfold isC; show 0 ≤ (M.time + 1) % 65536 ∧ (M.time + 1) % 65536 < 65536; omega }
  rw [upT_upT] at h2
  generalize w1.setRow d _ = w2 at h2 ⊢
  clear upd updB updT hm hlt
  obtain ⟨mb, bl, tv, hm, hlt, upd, updB, updT⟩ := h2.mem (upT_same ..)
  apply S_R (R_nil _); apply S_R (R_f115_8 _ _)
  refine S_storeB sz3 hm.cells (by rw [mem_size]; omega) rfl ?_
  rw [mem_set_cyc]
  have h3 := upd { M with pad := p, time := (M.time + 1) % 65536, cyc := 0 } rfl rfl { hm.ok with cyc := by show _ ≤ (0 : Int) ∧ (0 : Int) < _; omega }
  rw [upT_upT] at h3
  generalize w2.setRow d _ = w3 at h3 ⊢
  clear upd updB updT hm hlt
  obtain ⟨mb, bl, tv, hm, hlt, upd, updB, updT⟩ := h3.mem (upT_same ..)
  apply S_R (R_nil _); apply S_R (R_f115_9 _ _)
  refine S_storeB sz67 hm.cells (by rw [mem_size]; omega) rfl ?_
  rw [mem_set_tones]
  have h4 := updT (M.begin p) (.slice none 0 0) w3 rfl { hm.ok with } ⟨rfl, .inl ⟨rfl, rfl⟩⟩ (grownBy_refl _ _) (fun g hg => by cases hg)
  rw [upT_upT] at h4
  exact k _ h4
theorem at_spec' {d : Nat} {M : Mem} {c : Int} (h : Rep B w0 T w) (hT : T d = some (memory M)) (hp : -9223372036854775808 ≤ c ∧ c < 9223372036854775808)
    (k : ∀ w', Rep B w0 (upT T d (memory (M.at c))) w' → K (.tuple #[]) w') : Calls P 32 #[ptr d 0, i64 c] w (EndsS Kp K) := by
  obtain ⟨mb, bl, tv, hm, hlt, upd, updB, updT⟩ := h.mem hT
  refine F32_calls ?_
  unfold F32
  repeat' (with_reducible first
    | refine C_t ?_
    | refine S_storeB sz3 hm.cells (by rw [mem_size]; omega) rfl ?_
    | (apply S_R; first | exact R_nil _ | exact R_neqp34 _ _ _ _ | exact R_f115_8 _ _))
  rw [mem_set_cyc]
  exact k _ (upd _ rfl rfl { hm.ok with cyc := hp })
end
end Go.Proofs.YtebmnfmiphbgdaaGreatDoor
namespace Go.Proofs.YtebmnfmiphbgdaaGreatDoor
open Go.Sh
section
variable {w w0 : World} {Kp : KP} {K : K0} {B : Nat} {T : Store}
theorem tones_spec {d : Nat} {M : Mem} (h : Rep B w0 T w) (hT : T d = some (memory M)) (hn : M.tones.length ≤ 100000)
    (k : ∀ v T' w', Ext T T' → OwnAt T' 120 M.tones.length (toneCells M.tones) v → Rep B w0 T' w' → K v w') : Calls P 50 #[ptr d 0] w (EndsS Kp K) := by
  obtain ⟨mb, bl, tv, hm, hlt, -⟩ := h.mem hT
  refine F50_calls ?_
  unfold F50
  repeat' (with_reducible first
    | refine C_f ?_
    | refine S_loadX pl67 hm.cells memF_tones ?_
    | (apply S_R; first | exact R_nil _ | exact R_eqlp34 _ _ _ _ | exact R_f115_9 _ _))
  refine S_c83 ?_
  refine F83_calls ?_
  unfold F83
  rcases hm.own.2 with ⟨rfl, h0⟩ | ⟨g, cap, cur, rfl, _, hg, hc, hcap, hs, ht⟩
  · apply S_R (v := .bool true) ⟨fun _ => by kernel_rfl⟩
    repeat' (with_reducible refine C_t ?_)
    have he : M.tones = [] := List.eq_nil_of_length_eq_zero h0
    exact k _ _ _ (Ext.refl _) (.inl ⟨rfl, h0, by rw [he]; rfl⟩) h
  · apply S_R (v := .bool false) ⟨fun _ => by kernel_rfl⟩
    repeat' (with_reducible refine C_f ?_)
    refine S_run (v := sl w.heap.size 0 0 0) (w' := w.alloc (.cells #[] 120)) (by kernel_rfl) ?_
    have hgr := Grow.alloc w (.cells #[] 120)
    have hgl : g < w.heap.size := (Array.getElem?_eq_some_iff.1 hg).1
    have hnew : (w.alloc (.cells #[] 120)).heap[w.heap.size]? = some (.cells #[] 120 (0, 0)) := heap_alloc_new w _
    have hown0 : (w.alloc (.cells #[] 120)).ownsRow 0 120 3 (sl w.heap.size 0 0 0) 0 [] := ⟨rfl, .inr ⟨w.heap.size, 0, #[], rfl, Nat.zero_le _, hnew, Nat.le_refl _, Nat.zero_le _, rfl, rfl⟩⟩
    refine S_append (base := 0) (m := M.tones.length) Tryz.underlying67 in120 rfl rfl (by decide) hown0 (news := toneCells M.tones) (toneCells_len _) ?_ (toneCells_one _) (by simp only [maxLen]; omega) (by show (0 + M.tones.length) * 16 ≤ _; omega) (Nat.zero_le _) ?_
    · intro j u hj
      have hjl := (List.getElem?_eq_some_iff.1 hj).1
      rw [toneCells_len] at hjl
      rw [Addr.add_mid, Nat.zero_add, cell_of_row _ _ _ _ _ _ (show (w.alloc (.cells #[] 120)).heap[g]? = _ from (hgr.block g hgl).trans hg)]
      rw [← ht, List.getElem?_take, if_pos hjl] at hj
      simpa using hj
    · intro v' w1 hown hgb hnil hblk
      rw [Nat.zero_add, List.nil_append] at hown
      have hg1 : Grow w w1 := ⟨hgb.os, hgb.tape, hgb.output, Nat.le_trans hgr.size hgb.size, fun j hj => (hgb.block j (Nat.lt_of_lt_of_le hj hgr.size) (by simp [Value.ownBlock]; omega)).trans (hgr.block j hj)⟩
      obtain ⟨T', e1, e2, e3⟩ := OwnAt.of h hg1 hown (fun j hj => by
        rcases hblk with e | e
        · rw [e] at hj; simp [Value.ownBlock] at hj; omega
        · rw [e] at hj; simp only [Option.some.injEq] at hj; rw [← hj]; simp)
      exact k _ _ _ e1 e2 e3
end
end Go.Proofs.YtebmnfmiphbgdaaGreatDoor
namespace Go.Proofs.YtebmnfmiphbgdaaGreatDoor
open Go.Sh
section
variable {w w0 : World} {Kp : KP} {K : K0} {B : Nat} {T : Store}
abbrev refmem (M : Mem) : Ob := refO 69 79 5 120 M
abbrev RefM (w : World) (d : Nat) (bv : Value) (rb sb : Nat) (bl : List Nat) (tv : Value) (M : Mem) : Prop := RefAt 69 79 5 120 w d bv rb sb bl tv M
theorem own_big {e sz n : Nat} {v : Value} {xs : List Value} (h : w.ownsRow 0 e sz v n xs) : n ≤ 9223372036854775807 := by
  rcases h.2 with ⟨_, rfl⟩ | ⟨g, cap, cur, he, _, _, h1, h2, _⟩
  · omega
  · simp only [maxLen] at h2; omega
theorem bank_spec {d rb sb : Nat} {bl : List Nat} {bv tv : Value} {M : Mem} (hm : RefM w d bv rb sb bl tv M) (hlt : ∀ j ∈ d :: rb :: sb :: (bl ++ (bv.ownBlock.toList ++ tv.ownBlock.toList)), j < w.heap.size)
    (k0 : bankOf M.chosen M.banks = none → ∀ w', Grow w w' → K (.slice none 0 0) w')
    (k1 : ∀ f b, bankOf M.chosen M.banks = some f → mfind M.chosen (kvs M.banks bl) = some (ptr b 0) → ∀ w', Grow w w' → K (sl b 0 16384 16384) w') :
    Calls P 59 #[ptr d 0] w (EndsS Kp K) := by
  have hd := hm.cells
  obtain ⟨a, c, rfl, hnc⟩ := own_slice hm.row
  have hch := hm.ok.chosen
  have hrow := hm.row
  have hbig : M.banks.length ≤ 9223372036854775807 := own_big hrow
  refine F59_calls ?_
  unfold F59
  repeat' (with_reducible first
    | (apply S_R; first | exact R_nil _ | exact R_f69_0 _ _ | exact R_lenS Tryz.underlying65)
    | refine S_loadB pl65 (by first | assumption | exact heap_old (by assumption) (by assumption)) (by first | assumption | (with_unfolding_all exact rfl)) ?_)
  refine loop_count (fun i (_ : Unit) => upd 0 (ptr d 0) (upd 2 (.slice none 0 0) (upd 8 (.slice a M.banks.length c) (upd 9 (i64 M.banks.length) (upd 10 (i64 (i : Int)) E0))))) 10 .i64 M.banks.length
    (fun i _ w' => Grow w w' ∧ bankOf M.chosen M.banks = bankOf M.chosen (M.banks.drop i) ∧ mfind M.chosen (kvs M.banks bl) = mfind M.chosen (kvs (M.banks.drop i) (bl.drop i))) () (fun _ _ => rfl) rfl ⟨Grow.refl _, rfl, rfl⟩ ?_
  rintro i - w1 KL hi ⟨hg, h1, h2⟩ next
  try simp (decide := true) only [upd_hit, upd_miss]
  refine S_lss (fun hc => ?_) (fun hc => ?_)
  · refine C_t ?_
    have hlen := hm.banks.len
    have hdr := hm.banks.drop i
    have hcd := hm.banks.cells_drop i
    have hne : M.banks.drop i ≠ [] := by intro e; have := List.drop_eq_nil_iff.1 e; omega
    have hok := hm.ok.banks
    match hl : M.banks.drop i, hb : bl.drop i, hdr with
    | [], _, _ => exact absurd hl hne
    | (_, _) :: _, [], hdr => exact hdr.elim
    | (nn, f) :: rest, b :: rest', hdr =>
    rw [hl] at h1 h2 hcd
    rw [hb] at h2 hcd
    have hnn : 0 ≤ nn ∧ nn < 16 := (hok (nn, f) (List.mem_of_mem_drop (by rw [hl]; simp))).1
    obtain ⟨g, rfl, hcell⟩ := own_cell hrow (by omega)
    have ex0 : (bankCells M.banks bl)[i * 2 + 0]? = some (i64 nn) := by rw [← List.getElem?_drop, hcd]; rfl
    have ex1 : (bankCells M.banks bl)[i * 2 + 1]? = some (sl b 0 16384 16384) := by rw [← List.getElem?_drop, hcd]; rfl
    have hgl : g < w.heap.size := hlt g (by simp [Value.ownBlock])
    refine S_R (R_ixA Tryz.underlying65 sz79 (by omega) (by omega)) ?_
    refine S_loadRowC (cs := [i64 nn, sl b 0 16384 16384]) rw79 sz79 (fun j v hj => ?_) ?_
    · have hold : ∀ o, w1.cell? ⟨g, o, none⟩ = w.cell? ⟨g, o, none⟩ := fun o => by unfold World.cell?; simp only [hg.block g hgl]
      rw [hold]
      match j, hj with
      | 0, hj => simp at hj; subst hj; have := hcell _ _ ex0; simpa [Int.toNat_natCast] using this
      | 1, hj => simp at hj; subst hj; have := hcell _ _ ex1; simpa [Int.toNat_natCast] using this
    refine S_alloc zr79 ?_
    refine S_storeRow (cs := #[i64 0, .slice none 0 0]) sz79 (heap_alloc_new w1 _) rfl rfl ?_
    rw [setRow_alloc_new]
    have hd2 : w1.heap[d]? = _ := (hg.block d (hlt d (by simp))).trans hd
    have hgn : Grow w (drewW (w1.alloc (.cells #[i64 nn, sl b 0 16384 16384] 79))) := hg.trans ((Grow.alloc _ _).trans (Grow.drew _))
    have hnew := heap_alloc_new w1 (.cells #[i64 nn, sl b 0 16384 16384] 79)
    refine ⟨fun w' => w'.heap[w1.heap.size]? = some (.cells #[i64 nn, sl b 0 16384 16384] 79 (0, 0)) ∧ w'.heap[d]? = _, ⟨hnew, heap_old hd2 (by have := hg.size; have := hlt d (by simp); omega)⟩, ?_⟩
    replace hnew : (drewW (w1.alloc (.cells #[i64 nn, sl b 0 16384 16384] 79))).heap[w1.heap.size]? = _ := hnew
    generalize drewW (w1.alloc (.cells #[i64 nn, sl b 0 16384 16384] 79)) = w2 at hgn hnew ⊢
    repeat' (with_reducible first
      | refine C_t ?_
      | refine C_f ?_
      | refine Fl_eql (fun hc => ?_) (fun hc => ?_)
      | (apply S_R; first | exact R_f79_1 _ _ | exact R_addi (by omega))
      | (apply Fl_R; first | exact R_nil _ | exact R_f79_0 _ _ | exact R_f69_3 _ _ | exact R_toI64 Tryz.underlying5 Tryz.underlying3 (by omega))
      | refine S_loadB pl66 (by first | assumption | exact heap_old (by assumption) (by assumption)) (by first | assumption | (with_unfolding_all exact rfl)) ?_
      | refine Fl_loadB pl3 (fun w hw => (by first | assumption | exact hw | exact hw.1 | exact hw.2 | exact hw.2.1 | exact hw.2.2)) (by first | assumption | (with_unfolding_all exact rfl)) ?_
      | refine Fl_loadB pl5 (fun w hw => (by first | assumption | exact hw | exact hw.1 | exact hw.2 | exact hw.2.1 | exact hw.2.2)) (by first | assumption | (with_unfolding_all exact rfl)) ?_)
    · refine k1 f b ?_ ?_ _ hgn
      · rw [h1]; unfold bankOf; rw [if_pos hc.symm]
      · rw [h2]; unfold kvs mfind; rw [if_pos hc.symm]
    · rw [show ((i : Int) + 1) = ((i + 1 : Nat) : Int) by omega]
      refine next (by omega) () _ ⟨hgn, ?_, ?_⟩
      · rw [h1, show M.banks.drop (i + 1) = rest by rw [← List.drop_drop, hl]; rfl]
        show (if M.chosen = nn then some f else bankOf M.chosen rest) = bankOf M.chosen rest
        rw [if_neg (fun e => hc e.symm)]
      · rw [h2, show M.banks.drop (i + 1) = rest by rw [← List.drop_drop, hl]; rfl, show bl.drop (i + 1) = rest' by rw [← List.drop_drop, hb]; rfl]
        show (if M.chosen = nn then some (ptr b 0) else mfind M.chosen (kvs rest rest')) = mfind M.chosen (kvs rest rest')
        rw [if_neg (fun e => hc e.symm)]
  · refine C_f ?_
    have : M.banks.drop i = [] := List.drop_eq_nil_of_le (by omega)
    rw [this] at h1
    exact k0 h1 _ hg
theorem rload_spec {d : Nat} {M : Mem} {a : Int} (h : Rep B w0 T w) (hT : T d = some (refmem M)) (ha : isC a) (k : ∀ w', Rep B w0 T w' → K (u8 (M.load a)) w') : Calls P 94 #[ptr d 0, u16 a] w (EndsS Kp K) := by
  obtain ⟨bv, rb, sb, bl, tv, hm, hlt, -⟩ := h.ref hT
  have hd := hm.cells
  have hp := hm.ok.pitch
  have ht := hm.ok.time
  unfold isC at ha hp ht
  refine F94_calls ?_
  unfold F94
  repeat' (with_reducible first
    | refine C_t ?_
    | refine C_f ?_
    | refine S_eql (fun hc => ?_) (fun hc => ?_)
    | refine S_lss (fun hc => ?_) (fun hc => ?_)
    | (apply S_R; first | exact R_nil _ | exact R_toI64 Tryz.underlying41 Tryz.underlying3 (by omega) | exact R_subi (by omega) | exact R_ixA Tryz.underlying66 sz5 (by omega) (by omega) | exact R_f69_1 _ _ | exact R_f69_2 _ _ | exact R_f69_3 _ _ | exact R_f69_4 _ _ | exact R_f69_5 _ _ | exact R_toU8i Tryz.underlying41 Tryz.underlying5 (by omega) | exact R_toU8 Tryz.underlying41 Tryz.underlying5 | exact R_quo16 (by omega) (by omega) | exact R_f69_6 _ _ | exact R_f69_7 _ _)
    | refine S_loadB pl5 (by first | assumption | exact heap_old (by assumption) (by assumption)) (by first | assumption | (with_unfolding_all exact rfl)) ?_
    | refine S_loadB pl66 (by first | assumption | exact heap_old (by assumption) (by assumption)) (by first | assumption | (with_unfolding_all exact rfl)) ?_
    | refine S_loadB pl41 (by first | assumption | exact heap_old (by assumption) (by assumption)) (by first | assumption | (with_unfolding_all exact rfl)) ?_)
  · rw [Mem.load_low hc] at k; exact k _ h
  · rename_i hl
    rw [Mem.load_bank hl hc] at k
    refine S_c59 (bank_spec hm hlt (fun hb w1 hg => ?_) (fun f b hb hf w1 hg => ?_))
    · rw [hb] at k
      apply S_R (v := .bool true) ⟨fun _ => by kernel_rfl⟩
      repeat' (with_reducible refine C_t ?_)
      exact k _ (h.grow hg)
    · rw [hb] at k
      apply S_R (v := .bool false) ⟨fun _ => by kernel_rfl⟩
      repeat' (with_reducible first
        | refine C_f ?_
        | (apply S_R; first | exact R_subi (by omega) | exact R_ixA Tryz.underlying66 sz5 (by omega) (by omega)))
      obtain ⟨b', hb', hm', hh, -⟩ := hm.banks.some hb
      rw [hf] at hm'
      simp only [Option.some.injEq, Value.pointer.injEq, Addr.mk.injEq] at hm'
      have e := hm'.1
      subst e
      refine S_loadX pl5 ((hg.block b (hlt b (by simp [hb']))).trans hh) (bytes_getE (i := (a - 16384).toNat) f (by omega) (by omega)) ?_
      exact k _ (h.grow hg)
  · rename_i hl hl2
    rw [Mem.load_ram hl2 hc] at k
    refine S_loadX pl5 hm.ram (bytes_getE (i := (a - 32768).toNat) M.ram (by omega) (by omega)) ?_
    exact k _ h
  · rename_i hl hl2 hl3
    rw [Mem.load_scr hl3 hc] at k
    refine S_loadX pl5 hm.scr (bytes_getE (i := (a - 49152).toNat) M.scr (by omega) (by omega)) ?_
    exact k _ h
  all_goals
    rw [Mem.load_port (by omega)] at k
    refine K_int ?_ (k _ h)
    (repeat' split) <;> omega
end
end Go.Proofs.YtebmnfmiphbgdaaGreatDoor
namespace Go.Proofs.YtebmnfmiphbgdaaGreatDoor
open Go.Sh
section
variable {w w0 : World} {Kp : KP} {K : K0} {B : Nat} {T : Store}
theorem rstore_spec {d : Nat} {M : Mem} {a x : Int} (h : Rep B w0 T w) (hT : T d = some (refmem M)) (ha : isC a) (hx : isB x) (hn : M.tones.length ≤ 100000)
    (k : ∀ w', Rep B w0 (upT T d (refmem (M.store a x))) w' → K (.tuple #[]) w') : Calls P 30 #[ptr d 0, u16 a, u8 x] w (EndsS Kp K) := by
  obtain ⟨bv, rb, sb, bl, tv, hm, hlt, upd, updT⟩ := h.ref hT
  have hd := hm.cells
  have hok := hm.ok.store (a := a) hx
  have hp := hm.ok.pitch
  unfold isC at ha hp
  unfold isB at hx
  refine F30_calls ?_
  unfold F30
  repeat' (with_reducible first
    | refine C_t ?_
    | refine C_f ?_
    | refine S_eql (fun hc => ?_) (fun hc => ?_)
    | refine S_lss (fun hc => ?_) (fun hc => ?_)
    | (apply S_R; first | exact R_nil _ | exact R_toI64 Tryz.underlying41 Tryz.underlying3 (by omega) | exact R_subi (by omega) | exact R_ixA Tryz.underlying66 sz5 (by omega) (by omega) | exact R_f69_1 _ _ | exact R_f69_2 _ _ | exact R_remU (by omega) (by omega) | exact R_f69_3 _ _ | exact R_f69_5 _ _ | exact R_quo16 (by omega) (by omega) | exact R_mul16 | exact R_toU16i Tryz.underlying5 Tryz.underlying41 (by omega) | exact R_add16i (by omega) | exact R_rem16 (by omega) | exact R_f69_6 _ _)
    | refine S_storeB sz5 (by first | assumption | exact heap_old (by assumption) (by assumption)) (by first | assumption | with_unfolding_all exact Nat.le_of_ble_eq_true rfl) (by first | assumption | (with_unfolding_all exact rfl)) ?_
    | refine S_loadB pl66 (by first | assumption | exact heap_old (by assumption) (by assumption)) (by first | assumption | (with_unfolding_all exact rfl)) ?_
    | refine S_loadB pl41 (by first | assumption | exact heap_old (by assumption) (by assumption)) (by first | assumption | (with_unfolding_all exact rfl)) ?_
    | refine S_storeB sz41 (by first | assumption | exact heap_old (by assumption) (by assumption)) (by first | assumption | with_unfolding_all exact Nat.le_of_ble_eq_true rfl) (by first | assumption | (with_unfolding_all exact rfl)) ?_)
  · rw [Mem.store_low hc, upT_eq hT] at k; exact k _ h
  · rename_i hl
    rw [Mem.store_bank hl hc] at k hok
    refine S_c59 (bank_spec hm hlt (fun hb w1 hg => ?_) (fun f b hb hf w1 hg => ?_))
    · rw [setBank_none hb, upT_eq hT] at k
      apply S_R (v := .bool false) ⟨fun _ => by kernel_rfl⟩
      repeat' (with_reducible refine C_f ?_)
      exact k _ (h.grow hg)
    · apply S_R (v := .bool true) ⟨fun _ => by kernel_rfl⟩
      refine C_t ?_
      have hm1 := hm.same (fun j hj => hg.block j (hlt j hj))
      obtain ⟨b', hb', hf', hh, hset⟩ := hm1.setBank (g := fun f => fset f (a - 16384).toNat x) hb hok
      rw [hf] at hf'
      simp only [Option.some.injEq, Value.pointer.injEq, Addr.mk.injEq] at hf'
      have e := hf'.1
      subst e
      apply S_R (R_subi (by omega))
      apply S_R (R_ixA Tryz.underlying66 sz5 (by omega) (by omega))
      refine S_storeB sz5 hh (by rw [List.size_toArray, bytes_len]; omega) rfl ?_
      rw [List.setIfInBounds_toArray, bytes_set, show 0 + (a - 16384).toNat * 1 = (a - 16384).toNat by omega]
      exact k _ (upd _ _ _ _ hg (by simp [hb']) hset)
  · rename_i hl hl2
    rw [Mem.store_ram hl2 hc] at k hok
    refine S_storeB sz5 hm.ram (by rw [List.size_toArray, bytes_len]; omega) rfl ?_
    rw [List.setIfInBounds_toArray, bytes_set, show 0 + (a - 32768).toNat * 1 = (a - 32768).toNat by omega]
    exact k _ (upd _ _ _ _ (Grow.refl _) (by simp) (hm.setRam hok))
  · rename_i hl hl2 hl3
    rw [Mem.store_scr hl3 hc] at k hok
    refine S_storeB sz5 hm.scr (by rw [List.size_toArray, bytes_len]; omega) rfl ?_
    rw [List.setIfInBounds_toArray, bytes_set, show 0 + (a - 49152).toNat * 1 = (a - 49152).toNat by omega]
    exact k _ (upd _ _ _ _ (Grow.refl _) (by simp) (hm.setScr hok))
  all_goals (rw [Mem.store_port (by omega)] at k hok)
  · rw [if_pos hc] at k hok
    exact k _ (upd { M with chosen := x % 16 } d _ w (Grow.refl _) (by simp) (hm.setD (M' := { M with chosen := x % 16 }) rfl rfl rfl rfl hok))
  · rename_i hc0
    rw [if_neg hc0, if_pos hc] at k hok
    rw [show M.pitch / 256 * 256 % 65536 + x = M.pitch / 256 * 256 + x by omega]
    exact k _ (upd { M with pitch := M.pitch / 256 * 256 + x } d _ w (Grow.refl _) (by simp) (hm.setD (M' := { M with pitch := M.pitch / 256 * 256 + x }) rfl rfl rfl rfl hok))
  · rename_i hc0 hc1
    rw [if_neg hc0, if_neg hc1, if_pos hc] at k hok
    rw [show M.pitch % 256 + 256 * x % 65536 = M.pitch % 256 + 256 * x by omega]
    exact k _ (upd { M with pitch := M.pitch % 256 + 256 * x } d _ w (Grow.refl _) (by simp) (hm.setD (M' := { M with pitch := M.pitch % 256 + 256 * x }) rfl rfl rfl rfl hok))
  · rename_i hc0 hc1 hc2
    rw [if_neg hc0, if_neg hc1, if_neg hc2, if_pos hc] at k hok
    have h1 := upd { M with vol := x } d _ w (Grow.refl _) (by simp) (hm.setD (M' := { M with vol := x }) rfl rfl rfl rfl { hm.ok with vol := hx })
    obtain ⟨w1, hw1⟩ : ∃ w1, w1 = w.setRow d (refCells bv rb sb { M with vol := x } tv).toArray := ⟨_, rfl⟩
    rw [← hw1] at h1
    rw [show (refCells bv rb sb M tv).toArray.setIfInBounds (0 + 6) (u8 x) = (refCells bv rb sb { M with vol := x } tv).toArray from rfl, ← hw1]
    clear hw1
    obtain ⟨M1, hM⟩ : ∃ M1, M1 = { M with vol := x } := ⟨_, rfl⟩
    rw [← hM] at h1
    clear upd updT hm hlt hd
    obtain ⟨bv, rb, sb, bl, tv, hm, hlt, upd, updT⟩ := h1.ref (upT_same ..)
    refine ⟨fun w' => w'.heap[d]? = _, hm.cells, ?_⟩
    repeat' (with_reducible first
      | (apply Fl_R; first | exact R_nil _ | exact R_f69_5 _ _ | exact R_f69_9 _ _ | exact R_f69_8 _ _)
      | refine Fl_loadB pl41 (fun w hw => (by first | assumption | exact hw | exact hw.1 | exact hw.2 | exact hw.2.1 | exact hw.2.2)) (by first | assumption | (with_unfolding_all exact rfl)) ?_
      | refine Fl_loadB pl67 (fun w hw => (by first | assumption | exact hw | exact hw.1 | exact hw.2 | exact hw.2.1 | exact hw.2.2)) (by first | assumption | (with_unfolding_all exact rfl)) ?_
      | refine Fl_loadB pl3 (fun w hw => (by first | assumption | exact hw | exact hw.1 | exact hw.2 | exact hw.2.1 | exact hw.2.2)) (by first | assumption | (with_unfolding_all exact rfl)) ?_)
    refine Fl_R (v := .agg #[i64 M1.cyc, u16 M1.pitch, u8 x]) ⟨fun _ => by kernel_rfl⟩ ?_
    refine S_run (v := sl w1.heap.size 0 1 1) (w' := (drewW w1).alloc (.cells #[i64 M1.cyc, u16 M1.pitch, u8 x] 120)) (by kernel_rfl) ?_
    obtain ⟨w2, hw2⟩ : ∃ w2, w2 = (drewW w1).alloc (.cells #[i64 M1.cyc, u16 M1.pitch, u8 x] 120) := ⟨_, rfl⟩
    rw [← hw2]
    have hg2 : Grow w1 w2 := hw2 ▸ (Grow.drew w1).trans (Grow.alloc _ _)
    have hnew : w2.heap[w1.heap.size]? = some (.cells #[i64 M1.cyc, u16 M1.pitch, u8 x] 120 (0, 0)) := hw2 ▸ heap_alloc_new (drewW w1) _
    have hsz2 : w2.heap.size = w1.heap.size + 1 := by rw [hw2]; simp [drewW]
    have hm2 := hm.same (fun j hj => hg2.block j (hlt j hj))
    refine ⟨hm2.cells, ?_⟩
    have hn1 : M1.tones.length ≤ 100000 := by rw [hM]; exact hn
    refine S_append (base := 0) (m := 1) Tryz.underlying67 in120 rfl rfl (by decide) hm2.own (news := [i64 M1.cyc, u16 M1.pitch, u8 x]) rfl ?_ ?_ (by simp only [maxLen]; omega) (by show (M1.tones.length + 1) * 16 ≤ _; omega) (Nat.zero_le _) ?_
    · intro j u hj
      rw [Addr.add_mid, cell_of_row w2 _ _ _ _ _ hnew]
      simpa using hj
    · intro u hu
      simp only [List.mem_cons, List.not_mem_nil, or_false] at hu
      rcases hu with rfl | rfl | rfl <;> rfl
    intro v' w3 hown3 hg3 hnil hblk
    have hd3 : w3.heap[d]? = some (.cells (refCells bv rb sb M1 tv).toArray 69 (0, 0)) := by
      rw [hg3.block d (by have := hlt d (by simp); omega) (fun e => hm.ne.dtv e.symm)]
      exact hm2.cells
    refine ⟨hd3, Fl_R (R_nil _) (Fl_R (R_f69_9 _ _) ?_)⟩
    refine S_storeB sz67 hd3 (by rw [List.size_toArray]; show 0 + 9 < 10; omega) (own_tones hown3) ?_
    have hg13 : w1.grownBy w3 tv.ownBlock := ⟨hg3.os.trans hg2.os, hg3.tape.trans hg2.tape, hg3.output.trans hg2.output, Nat.le_trans hg2.size hg3.size, fun j hj hne => by rw [hg3.block j (by omega) hne]; exact hg2.block j hj⟩
    have h5 := updT { M1 with tones := M.tones ++ [(M.cyc, M.pitch, x)] } v' w3 rfl rfl rfl (by rw [hM]; exact hok) (by
      show w3.ownsRow 0 120 3 v' (M.tones ++ [(M.cyc, M.pitch, x)]).length (toneCells (M.tones ++ [(M.cyc, M.pitch, x)]))
      rw [toneCells_append, List.length_append]
      subst hM
      exact hown3) hg13 (fun g hg => by
        rcases hblk with e | e
        · exact .inl (by rw [← e]; exact hg)
        · rw [e] at hg; simp only [Option.some.injEq] at hg; exact .inr (by omega))
    rw [upT_upT] at h5
    subst hM
    exact k _ h5
  · rename_i hc0 hc1 hc2
    rw [if_neg hc0, if_neg hc1, if_neg hc2, if_neg hc, upT_eq hT] at k
    exact k _ h
end
end Go.Proofs.YtebmnfmiphbgdaaGreatDoor
namespace Go.Proofs.YtebmnfmiphbgdaaGreatDoor
open Go.Sh
section
variable {w w0 : World} {Kp : KP} {K : K0} {B : Nat} {T : Store}
theorem rcell_spec {d : Nat} {M : Mem} {a : Int} (h : Rep B w0 T w) (hT : T d = some (refmem M)) (ha : isC a) (k : ∀ w', Rep B w0 T w' → K (u16 (M.cell a)) w') : Calls P 72 #[ptr d 0, u16 a] w (EndsS Kp K) := by
  obtain ⟨bv, rb, sb, bl, tv, hm, -⟩ := h.ref hT
  have h1 := hm.ok.loadB a
  have h2 := hm.ok.loadB ((a + 1) % 65536)
  have ha2 : isC ((a + 1) % 65536) := by unfold isC; omega
  clear hm
  refine F72_calls ?_
  unfold F72
  refine S_c94 (rload_spec h hT ha (fun w1 h3 => ?_))
  unfold isB at h1 h2
  apply S_R (R_toU16i Tryz.underlying5 Tryz.underlying41 (by omega))
  apply S_R R_add16
  refine S_c94 (rload_spec h3 hT ha2 (fun w2 h4 => ?_))
  apply S_R (R_toU16i Tryz.underlying5 Tryz.underlying41 (by omega))
  apply S_R R_mul16
  apply S_R R_add16
  refine K_int ?_ (k _ h4)
  unfold Mem.cell; omega
theorem rsetCell_spec {d : Nat} {M : Mem} {a x : Int} (h : Rep B w0 T w) (hT : T d = some (refmem M)) (ha : isC a) (hx : isC x) (hn : M.tones.length ≤ 90000)
    (k : ∀ w', Rep B w0 (upT T d (refmem (M.setCell a x))) w' → K (.tuple #[]) w') : Calls P 93 #[ptr d 0, u16 a, u16 x] w (EndsS Kp K) := by
  have ha2 : isC ((a + 1) % 65536) := by unfold isC; omega
  have hlen := M.tones_store a (x % 256)
  unfold isC at hx
  refine F93_calls ?_
  unfold F93
  apply S_R (R_toU8 Tryz.underlying41 Tryz.underlying5)
  refine S_c30 (rstore_spec h hT ha (by unfold isB; omega) (by omega) (fun w1 h1 => ?_))
  apply S_R (R_add16)
  apply S_R (R_quo16 (by omega) (by omega))
  apply S_R (R_toU8i Tryz.underlying41 Tryz.underlying5 (by omega))
  refine S_c30 (rstore_spec h1 (upT_same ..) ha2 (by unfold isB; omega) (by omega) (fun w2 h2 => ?_))
  rw [upT_upT] at h2
  exact k _ h2
theorem rplot_spec {d : Nat} {M : Mem} {x y c : Int} (h : Rep B w0 T w) (hT : T d = some (refmem M)) (hx : isC x) (hy : isC y) (hz : isC c) (hn : M.tones.length ≤ 90000)
    (k : ∀ w', Rep B w0 (upT T d (refmem (M.plot x y c))) w' → K (.tuple #[]) w') : Calls P 95 #[ptr d 0, u16 x, u16 y, u16 c] w (EndsS Kp K) := by
  unfold isC at hx hy hz
  refine F95_calls ?_
  unfold F95
  repeat' (with_reducible first
    | refine C_t ?_
    | refine C_f ?_
    | refine GS_t ?_
    | refine GS_f ?_
    | refine S_lss (fun hc => ?_) (fun hc => ?_)
    | (apply S_R; first | exact R_move _ | exact R_pick_t _ _ | exact R_pick_f _ _ | exact R_mul16 | exact R_add16i (by omega) | exact R_toU8 Tryz.underlying41 Tryz.underlying5))
  · rename_i hcx
    unfold Mem.plot at k
    rw [if_pos ⟨hcx, hc⟩] at k
    refine S_c30 (rstore_spec h hT (by unfold isC; omega) (by unfold isB; omega) (by omega) (fun w1 h1 => ?_))
    rw [show 49152 + 64 * y % 65536 + x = 49152 + 64 * y + x by omega] at h1
    exact k _ h1
  · unfold Mem.plot at k
    rw [if_neg (fun e => hc e.2), upT_eq hT] at k
    exact k _ h
  · unfold Mem.plot at k
    rw [if_neg (fun e => hc e.1), upT_eq hT] at k
    exact k _ h
theorem rplay_spec {d : Nat} {M : Mem} {p v : Int} (h : Rep B w0 T w) (hT : T d = some (refmem M)) (hp : isC p) (hv : isB v) (hn : M.tones.length ≤ 90000)
    (k : ∀ w', Rep B w0 (upT T d (refmem (M.play p v))) w' → K (.tuple #[]) w') : Calls P 96 #[ptr d 0, u16 p, u8 v] w (EndsS Kp K) := by
  refine F96_calls ?_
  unfold F96
  refine S_c93 (rsetCell_spec h hT (by unfold isC; omega) hp hn (fun w1 h1 => ?_))
  refine S_c30 (rstore_spec h1 (upT_same ..) (by unfold isC; omega) hv ?_ (fun w2 h2 => ?_))
  · have h1 := M.tones_store 65284 (p % 256)
    have h2 := (M.store 65284 (p % 256)).tones_store ((65284 + 1) % 65536) (p / 256)
    unfold Mem.setCell; omega
  rw [upT_upT] at h2
  exact k _ h2
theorem rchoose_spec {d : Nat} {M : Mem} {n : Int} (h : Rep B w0 T w) (hT : T d = some (refmem M)) (hp : isC n) (hn : M.tones.length ≤ 90000)
    (k : ∀ w', Rep B w0 (upT T d (refmem (M.choose n))) w' → K (.tuple #[]) w') : Calls P 97 #[ptr d 0, u16 n] w (EndsS Kp K) := by
  refine F97_calls ?_
  unfold F97
  apply S_R (R_toU8 Tryz.underlying41 Tryz.underlying5)
  exact S_c30 (rstore_spec h hT (by unfold isC; omega) (by unfold isB; omega) (by omega) k)
end
end Go.Proofs.YtebmnfmiphbgdaaGreatDoor
