/- A part of the proof of a law: texts of this claim, joined by a program of the prover (Tb, Fa). Conditions: those that each law names. -/
import Derived.Test.YtebmnfmiphbgdaaGreatDoorEachA
import Derived.Test.YtebmnfmiphbgdaaGreatDoorProg
set_option linter.unusedVariables false
set_option linter.unusedSimpArgs false
set_option linter.unusedSectionVars false
set_option linter.unnecessarySimpa false
namespace Go.Proofs.YtebmnfmiphbgdaaGreatDoor
open Go.Sh
set_option maxRecDepth 100000
noncomputable abbrev P : Program := Tryz.prog
theorem sz3 : sizeT P 3 = some 1 := by kernel_rfl
theorem pl3 : plainT P 3 = true := by kernel_rfl
theorem in3 : P.info? 3 = some Tryz.t3 := by kernel_rfl
theorem sz4 : sizeT P 4 = some 1 := by kernel_rfl
theorem pl4 : plainT P 4 = true := by kernel_rfl
theorem zr4 : (P.info? 4).bind (·.zero) = some (Value.bool false) := by kernel_rfl
theorem sz5 : sizeT P 5 = some 1 := by kernel_rfl
theorem pl5 : plainT P 5 = true := by kernel_rfl
theorem in5 : P.info? 5 = some Tryz.t5 := by kernel_rfl
theorem sz9 : sizeT P 9 = some 1 := by kernel_rfl
theorem pl9 : plainT P 9 = true := by kernel_rfl
theorem sz22 : sizeT P 22 = some 1 := by kernel_rfl
theorem pl22 : plainT P 22 = true := by kernel_rfl
theorem sz23 : sizeT P 23 = some 1 := by kernel_rfl
theorem pl23 : plainT P 23 = true := by kernel_rfl
theorem pl25 : plainT P 25 = true := by kernel_rfl
theorem R_eqlp26 (cx cy : Bool) (b o : Nat) : R P (vbin .eql 26 cx cy (ptr b o) nilp) (.bool false) := ⟨fun w => by kernel_rfl⟩
theorem pl32 : plainT P 32 = true := by kernel_rfl
theorem R_eqlp32 (cx cy : Bool) (b o : Nat) : R P (vbin .eql 32 cx cy (ptr b o) nilp) (.bool false) := ⟨fun w => by kernel_rfl⟩
theorem R_eqln32 (cx cy : Bool) : R P (vbin .eql 32 cx cy nilp nilp) (.bool true) := ⟨fun w => by kernel_rfl⟩
theorem pl33 : plainT P 33 = true := by kernel_rfl
theorem R_eqlp33 (cx cy : Bool) (b o : Nat) : R P (vbin .eql 33 cx cy (ptr b o) nilp) (.bool false) := ⟨fun w => by kernel_rfl⟩
theorem pl34 : plainT P 34 = true := by kernel_rfl
theorem R_eqlp34 (cx cy : Bool) (b o : Nat) : R P (vbin .eql 34 cx cy (ptr b o) nilp) (.bool false) := ⟨fun w => by kernel_rfl⟩
theorem R_neqp34 (cx cy : Bool) (b o : Nat) : R P (vbin .neq 34 cx cy (ptr b o) nilp) (.bool true) := ⟨fun w => by kernel_rfl⟩
theorem pl35 : plainT P 35 = true := by kernel_rfl
theorem R_eqlp35 (cx cy : Bool) (b o : Nat) : R P (vbin .eql 35 cx cy (ptr b o) nilp) (.bool false) := ⟨fun w => by kernel_rfl⟩
theorem pl36 : plainT P 36 = true := by kernel_rfl
theorem R_eqlp36 (cx cy : Bool) (b o : Nat) : R P (vbin .eql 36 cx cy (ptr b o) nilp) (.bool false) := ⟨fun w => by kernel_rfl⟩
theorem pl37 : plainT P 37 = true := by kernel_rfl
theorem R_eqlp37 (cx cy : Bool) (b o : Nat) : R P (vbin .eql 37 cx cy (ptr b o) nilp) (.bool false) := ⟨fun w => by kernel_rfl⟩
theorem sz41 : sizeT P 41 = some 1 := by kernel_rfl
theorem pl41 : plainT P 41 = true := by kernel_rfl
theorem in41 : P.info? 41 = some Tryz.t41 := by kernel_rfl
theorem sz43 : sizeT P 43 = some 6 := by kernel_rfl
theorem rw43 : rowT P 43 = true := by kernel_rfl
theorem zr43 : (P.info? 43).bind (·.zero) = some (Value.agg #[Value.int IntKind.i64 0, Value.string { data := #[] }, Value.int IntKind.i64 0, Value.int IntKind.i64 0, Value.int IntKind.i64 0, Value.bool false]) := by kernel_rfl
theorem sz65 : sizeT P 65 = some 1 := by kernel_rfl
theorem pl65 : plainT P 65 = true := by kernel_rfl
theorem pl66 : plainT P 66 = true := by kernel_rfl
theorem sz67 : sizeT P 67 = some 1 := by kernel_rfl
theorem pl67 : plainT P 67 = true := by kernel_rfl
theorem sz75 : sizeT P 75 = some 2 := by kernel_rfl
theorem rw75 : rowT P 75 = true := by kernel_rfl
theorem in75 : P.info? 75 = some Tryz.t75 := by kernel_rfl
theorem zr75 : (P.info? 75).bind (·.zero) = some (Value.agg #[Value.int IntKind.i64 0, Value.int IntKind.u16 0]) := by kernel_rfl
theorem sz79 : sizeT P 79 = some 2 := by kernel_rfl
theorem rw79 : rowT P 79 = true := by kernel_rfl
theorem in79 : P.info? 79 = some Tryz.t79 := by kernel_rfl
theorem zr79 : (P.info? 79).bind (·.zero) = some (Value.agg #[Value.int IntKind.i64 0, Value.slice none 0 0]) := by kernel_rfl
theorem pl90 : plainT P 90 = true := by kernel_rfl
theorem sz92 : sizeT P 92 = some 7 := by kernel_rfl
theorem rw92 : rowT P 92 = true := by kernel_rfl
theorem zr92 : (P.info? 92).bind (·.zero) = some (Value.agg #[Value.int IntKind.i64 0, Value.string { data := #[] }, Value.int IntKind.i64 0, Value.int IntKind.i64 0, Value.int IntKind.i64 0, Value.bool false, Value.nilFunc]) := by kernel_rfl
theorem pl110 : plainT P 110 = true := by kernel_rfl
theorem sz120 : sizeT P 120 = some 3 := by kernel_rfl
theorem rw120 : rowT P 120 = true := by kernel_rfl
theorem in120 : P.info? 120 = some Tryz.t120 := by kernel_rfl
theorem R_eqlp121 (cx cy : Bool) (b o : Nat) : R P (vbin .eql 121 cx cy (ptr b o) nilp) (.bool false) := ⟨fun w => by kernel_rfl⟩
theorem R_neqp121 (cx cy : Bool) (b o : Nat) : R P (vbin .neq 121 cx cy (ptr b o) nilp) (.bool true) := ⟨fun w => by kernel_rfl⟩
theorem R_eqlp123 (cx cy : Bool) (b o : Nat) : R P (vbin .eql 123 cx cy (ptr b o) nilp) (.bool false) := ⟨fun w => by kernel_rfl⟩
theorem R_neqp123 (cx cy : Bool) (b o : Nat) : R P (vbin .neq 123 cx cy (ptr b o) nilp) (.bool true) := ⟨fun w => by kernel_rfl⟩
theorem R_eqlp178 (cx cy : Bool) (b o : Nat) : R P (vbin .eql 178 cx cy (ptr b o) nilp) (.bool false) := ⟨fun w => by kernel_rfl⟩
theorem R_eqln178 (cx cy : Bool) : R P (vbin .eql 178 cx cy nilp nilp) (.bool true) := ⟨fun w => by kernel_rfl⟩
theorem R_f39_0 (b o : Nat) : R P (vfield 39 (ptr b o) 0) (ptr b o) := ⟨fun w => by kernel_rfl⟩
theorem R_f39_1 (b o : Nat) : R P (vfield 39 (ptr b o) 1) (ptr b (o + 1)) := ⟨fun w => by kernel_rfl⟩
theorem R_f39_2 (b o : Nat) : R P (vfield 39 (ptr b o) 2) (ptr b (o + 2)) := ⟨fun w => by kernel_rfl⟩
theorem R_f39_3 (b o : Nat) : R P (vfield 39 (ptr b o) 3) (ptr b (o + 3)) := ⟨fun w => by kernel_rfl⟩
theorem R_f39_4 (b o : Nat) : R P (vfield 39 (ptr b o) 4) (ptr b (o + 4)) := ⟨fun w => by kernel_rfl⟩
theorem R_f39_5 (b o : Nat) : R P (vfield 39 (ptr b o) 5) (ptr b (o + 5)) := ⟨fun w => by kernel_rfl⟩
theorem R_f43_1 (b o : Nat) : R P (vfield 43 (ptr b o) 1) (ptr b (o + 1)) := ⟨fun w => by kernel_rfl⟩
theorem R_f43_2 (b o : Nat) : R P (vfield 43 (ptr b o) 2) (ptr b (o + 2)) := ⟨fun w => by kernel_rfl⟩
theorem R_f43_3 (b o : Nat) : R P (vfield 43 (ptr b o) 3) (ptr b (o + 3)) := ⟨fun w => by kernel_rfl⟩
theorem R_f69_0 (b o : Nat) : R P (vfield 69 (ptr b o) 0) (ptr b o) := ⟨fun w => by kernel_rfl⟩
theorem R_f69_1 (b o : Nat) : R P (vfield 69 (ptr b o) 1) (ptr b (o + 1)) := ⟨fun w => by kernel_rfl⟩
theorem R_f69_2 (b o : Nat) : R P (vfield 69 (ptr b o) 2) (ptr b (o + 2)) := ⟨fun w => by kernel_rfl⟩
theorem R_f69_3 (b o : Nat) : R P (vfield 69 (ptr b o) 3) (ptr b (o + 3)) := ⟨fun w => by kernel_rfl⟩
theorem R_f69_4 (b o : Nat) : R P (vfield 69 (ptr b o) 4) (ptr b (o + 4)) := ⟨fun w => by kernel_rfl⟩
theorem R_f69_5 (b o : Nat) : R P (vfield 69 (ptr b o) 5) (ptr b (o + 5)) := ⟨fun w => by kernel_rfl⟩
theorem R_f69_6 (b o : Nat) : R P (vfield 69 (ptr b o) 6) (ptr b (o + 6)) := ⟨fun w => by kernel_rfl⟩
theorem R_f69_7 (b o : Nat) : R P (vfield 69 (ptr b o) 7) (ptr b (o + 7)) := ⟨fun w => by kernel_rfl⟩
theorem R_f69_8 (b o : Nat) : R P (vfield 69 (ptr b o) 8) (ptr b (o + 8)) := ⟨fun w => by kernel_rfl⟩
theorem R_f69_9 (b o : Nat) : R P (vfield 69 (ptr b o) 9) (ptr b (o + 9)) := ⟨fun w => by kernel_rfl⟩
theorem R_f75_0 (b o : Nat) : R P (vfield 75 (ptr b o) 0) (ptr b o) := ⟨fun w => by kernel_rfl⟩
theorem R_f75_1 (b o : Nat) : R P (vfield 75 (ptr b o) 1) (ptr b (o + 1)) := ⟨fun w => by kernel_rfl⟩
theorem R_f79_0 (b o : Nat) : R P (vfield 79 (ptr b o) 0) (ptr b o) := ⟨fun w => by kernel_rfl⟩
theorem R_f79_1 (b o : Nat) : R P (vfield 79 (ptr b o) 1) (ptr b (o + 1)) := ⟨fun w => by kernel_rfl⟩
theorem R_f85_0 (b o : Nat) : R P (vfield 85 (ptr b o) 0) (ptr b o) := ⟨fun w => by kernel_rfl⟩
theorem R_f87_0 (b o : Nat) : R P (vfield 87 (ptr b o) 0) (ptr b o) := ⟨fun w => by kernel_rfl⟩
theorem R_f92_0 (b o : Nat) : R P (vfield 92 (ptr b o) 0) (ptr b o) := ⟨fun w => by kernel_rfl⟩
theorem R_f92_1 (b o : Nat) : R P (vfield 92 (ptr b o) 1) (ptr b (o + 6)) := ⟨fun w => by kernel_rfl⟩
theorem R_f99_0 (b o : Nat) : R P (vfield 99 (ptr b o) 0) (ptr b o) := ⟨fun w => by kernel_rfl⟩
theorem R_f99_1 (b o : Nat) : R P (vfield 99 (ptr b o) 1) (ptr b (o + 1)) := ⟨fun w => by kernel_rfl⟩
theorem R_f99_2 (b o : Nat) : R P (vfield 99 (ptr b o) 2) (ptr b (o + 2)) := ⟨fun w => by kernel_rfl⟩
theorem R_f115_0 (b o : Nat) : R P (vfield 115 (ptr b o) 0) (ptr b o) := ⟨fun w => by kernel_rfl⟩
theorem R_f115_1 (b o : Nat) : R P (vfield 115 (ptr b o) 1) (ptr b (o + 1)) := ⟨fun w => by kernel_rfl⟩
theorem R_f115_2 (b o : Nat) : R P (vfield 115 (ptr b o) 2) (ptr b (o + 16385)) := ⟨fun w => by kernel_rfl⟩
theorem R_f115_3 (b o : Nat) : R P (vfield 115 (ptr b o) 3) (ptr b (o + 19457)) := ⟨fun w => by kernel_rfl⟩
theorem R_f115_4 (b o : Nat) : R P (vfield 115 (ptr b o) 4) (ptr b (o + 19458)) := ⟨fun w => by kernel_rfl⟩
theorem R_f115_5 (b o : Nat) : R P (vfield 115 (ptr b o) 5) (ptr b (o + 19459)) := ⟨fun w => by kernel_rfl⟩
theorem R_f115_6 (b o : Nat) : R P (vfield 115 (ptr b o) 6) (ptr b (o + 19460)) := ⟨fun w => by kernel_rfl⟩
theorem R_f115_7 (b o : Nat) : R P (vfield 115 (ptr b o) 7) (ptr b (o + 19461)) := ⟨fun w => by kernel_rfl⟩
theorem R_f115_8 (b o : Nat) : R P (vfield 115 (ptr b o) 8) (ptr b (o + 19462)) := ⟨fun w => by kernel_rfl⟩
theorem R_f115_9 (b o : Nat) : R P (vfield 115 (ptr b o) 9) (ptr b (o + 19463)) := ⟨fun w => by kernel_rfl⟩
theorem R_f132_0 (b o : Nat) : R P (vfield 132 (ptr b o) 0) (ptr b o) := ⟨fun w => by kernel_rfl⟩
theorem R_f134_0 (b o : Nat) : R P (vfield 134 (ptr b o) 0) (ptr b o) := ⟨fun w => by kernel_rfl⟩
theorem R_f136_0 (b o : Nat) : R P (vfield 136 (ptr b o) 0) (ptr b o) := ⟨fun w => by kernel_rfl⟩
theorem R_f138_0 (b o : Nat) : R P (vfield 138 (ptr b o) 0) (ptr b o) := ⟨fun w => by kernel_rfl⟩
/-- wisp/wisplaw06.fixed -/
theorem S_c7 {w : World} {Kp : KP} {K : K0} (h : Calls P 7 #[] w (EndsS Kp K)) : S P (vcall (.func (.func 7) #[] #[]) #[]) w Kp K := ⟨by
  have e : (vcall (.func (.func 7) #[] #[]) #[]).run P w = .ok (.enter 7 #[]) w := by kernel_rfl
  rw [e]; exact h⟩
/-- wisp/wisplaw06.born -/
theorem S_c8 {x0 x1 : Value} {w : World} {Kp : KP} {K : K0} (h : Calls P 8 #[x0, x1] w (EndsS Kp K)) : S P (vcall (.func (.func 8) #[] #[]) #[x0, x1]) w Kp K := ⟨by
  have e : (vcall (.func (.func 8) #[] #[]) #[x0, x1]).run P w = .ok (.enter 8 #[x0, x1]) w := by kernel_rfl
  rw [e]; exact h⟩
/-- (*wisp/wisplaw06.world).does -/
theorem S_c9 {x0 x1 : Value} {w : World} {Kp : KP} {K : K0} (h : Calls P 9 #[x0, x1] w (EndsS Kp K)) : S P (vcall (.func (.func 9) #[] #[]) #[x0, x1]) w Kp K := ⟨by
  have e : (vcall (.func (.func 9) #[] #[]) #[x0, x1]).run P w = .ok (.enter 9 #[x0, x1]) w := by kernel_rfl
  rw [e]; exact h⟩
/-- wisp/prim.Do -/
theorem S_c10 {x0 x1 x2 x3 : Value} {w : World} {Kp : KP} {K : K0} (h : Calls P 10 #[x0, x1, x2, x3] w (EndsS Kp K)) : S P (vcall (.func (.func 10) #[] #[]) #[x0, x1, x2, x3]) w Kp K := ⟨by
  have e : (vcall (.func (.func 10) #[] #[]) #[x0, x1, x2, x3]).run P w = .ok (.enter 10 #[x0, x1, x2, x3]) w := by kernel_rfl
  rw [e]; exact h⟩
/-- wisp/prim.Plain -/
theorem S_c11 {x0 : Value} {w : World} {Kp : KP} {K : K0} (h : Calls P 11 #[x0] w (EndsS Kp K)) : S P (vcall (.func (.func 11) #[] #[]) #[x0]) w Kp K := ⟨by
  have e : (vcall (.func (.func 11) #[] #[]) #[x0]).run P w = .ok (.enter 11 #[x0]) w := by kernel_rfl
  rw [e]; exact h⟩
/-- (*wisp/wisplaw06.world).stacks -/
theorem S_c12 {x0 : Value} {w : World} {Kp : KP} {K : K0} (h : Calls P 12 #[x0] w (EndsS Kp K)) : S P (vcall (.func (.func 12) #[] #[]) #[x0]) w Kp K := ⟨by
  have e : (vcall (.func (.func 12) #[] #[]) #[x0]).run P w = .ok (.enter 12 #[x0]) w := by kernel_rfl
  rw [e]; exact h⟩
/-- wisp/prim.Of -/
theorem S_c14 {x0 : Value} {w : World} {Kp : KP} {K : K0} (h : Calls P 14 #[x0] w (EndsS Kp K)) : S P (vcall (.func (.func 14) #[] #[]) #[x0]) w Kp K := ⟨by
  have e : (vcall (.func (.func 14) #[] #[]) #[x0]).run P w = .ok (.enter 14 #[x0]) w := by kernel_rfl
  rw [e]; exact h⟩
/-- (*wisp/mem.Memory).Store -/
theorem S_c16 {x0 x1 x2 : Value} {w : World} {Kp : KP} {K : K0} (h : Calls P 16 #[x0, x1, x2] w (EndsS Kp K)) : S P (vcall (.func (.func 16) #[] #[]) #[x0, x1, x2]) w Kp K := ⟨by
  have e : (vcall (.func (.func 16) #[] #[]) #[x0, x1, x2]).run P w = .ok (.enter 16 #[x0, x1, x2]) w := by kernel_rfl
  rw [e]; exact h⟩
/-- (*wisp/stack.Data).Cells -/
theorem S_c17 {x0 : Value} {w : World} {Kp : KP} {K : K0} (h : Calls P 17 #[x0] w (EndsS Kp K)) : S P (vcall (.func (.func 17) #[] #[]) #[x0]) w Kp K := ⟨by
  have e : (vcall (.func (.func 17) #[] #[]) #[x0]).run P w = .ok (.enter 17 #[x0]) w := by kernel_rfl
  rw [e]; exact h⟩
/-- (*wisp/stack.Return).Cells -/
theorem S_c18 {x0 : Value} {w : World} {Kp : KP} {K : K0} (h : Calls P 18 #[x0] w (EndsS Kp K)) : S P (vcall (.func (.func 18) #[] #[]) #[x0]) w Kp K := ⟨by
  have e : (vcall (.func (.func 18) #[] #[]) #[x0]).run P w = .ok (.enter 18 #[x0]) w := by kernel_rfl
  rw [e]; exact h⟩
/-- (*wisp/stack.Data).Push -/
theorem S_c26 {x0 x1 : Value} {w : World} {Kp : KP} {K : K0} (h : Calls P 26 #[x0, x1] w (EndsS Kp K)) : S P (vcall (.func (.func 26) #[] #[]) #[x0, x1]) w Kp K := ⟨by
  have e : (vcall (.func (.func 26) #[] #[]) #[x0, x1]).run P w = .ok (.enter 26 #[x0, x1]) w := by kernel_rfl
  rw [e]; exact h⟩
/-- (*wisp/wispref05.Data).Push -/
theorem S_c27 {x0 x1 : Value} {w : World} {Kp : KP} {K : K0} (h : Calls P 27 #[x0, x1] w (EndsS Kp K)) : S P (vcall (.func (.func 27) #[] #[]) #[x0, x1]) w Kp K := ⟨by
  have e : (vcall (.func (.func 27) #[] #[]) #[x0, x1]).run P w = .ok (.enter 27 #[x0, x1]) w := by kernel_rfl
  rw [e]; exact h⟩
/-- (*wisp/stack.Return).Push -/
theorem S_c28 {x0 x1 : Value} {w : World} {Kp : KP} {K : K0} (h : Calls P 28 #[x0, x1] w (EndsS Kp K)) : S P (vcall (.func (.func 28) #[] #[]) #[x0, x1]) w Kp K := ⟨by
  have e : (vcall (.func (.func 28) #[] #[]) #[x0, x1]).run P w = .ok (.enter 28 #[x0, x1]) w := by kernel_rfl
  rw [e]; exact h⟩
/-- (*wisp/wispref05.Return).Push -/
theorem S_c29 {x0 x1 : Value} {w : World} {Kp : KP} {K : K0} (h : Calls P 29 #[x0, x1] w (EndsS Kp K)) : S P (vcall (.func (.func 29) #[] #[]) #[x0, x1]) w Kp K := ⟨by
  have e : (vcall (.func (.func 29) #[] #[]) #[x0, x1]).run P w = .ok (.enter 29 #[x0, x1]) w := by kernel_rfl
  rw [e]; exact h⟩
/-- (*wisp/wispref04.Memory).Store -/
theorem S_c30 {x0 x1 x2 : Value} {w : World} {Kp : KP} {K : K0} (h : Calls P 30 #[x0, x1, x2] w (EndsS Kp K)) : S P (vcall (.func (.func 30) #[] #[]) #[x0, x1, x2]) w Kp K := ⟨by
  have e : (vcall (.func (.func 30) #[] #[]) #[x0, x1, x2]).run P w = .ok (.enter 30 #[x0, x1, x2]) w := by kernel_rfl
  rw [e]; exact h⟩
/-- wisp/prim.Named -/
theorem S_c33 {x0 : Value} {w : World} {Kp : KP} {K : K0} (h : Calls P 33 #[x0] w (EndsS Kp K)) : S P (vcall (.func (.func 33) #[] #[]) #[x0]) w Kp K := ⟨by
  have e : (vcall (.func (.func 33) #[] #[]) #[x0]).run P w = .ok (.enter 33 #[x0]) w := by kernel_rfl
  rw [e]; exact h⟩
/-- wisp/wisplaw06.same -/
theorem S_c34 {x0 x1 : Value} {w : World} {Kp : KP} {K : K0} (h : Calls P 34 #[x0, x1] w (EndsS Kp K)) : S P (vcall (.func (.func 34) #[] #[]) #[x0, x1]) w Kp K := ⟨by
  have e : (vcall (.func (.func 34) #[] #[]) #[x0, x1]).run P w = .ok (.enter 34 #[x0, x1]) w := by kernel_rfl
  rw [e]; exact h⟩
/-- wisp/wispref05.SameCells -/
theorem S_c35 {x0 x1 : Value} {w : World} {Kp : KP} {K : K0} (h : Calls P 35 #[x0, x1] w (EndsS Kp K)) : S P (vcall (.func (.func 35) #[] #[]) #[x0, x1]) w Kp K := ⟨by
  have e : (vcall (.func (.func 35) #[] #[]) #[x0, x1]).run P w = .ok (.enter 35 #[x0, x1]) w := by kernel_rfl
  rw [e]; exact h⟩
/-- wisp/stack.Stacks -/
theorem S_c36 {x0 x1 : Value} {w : World} {Kp : KP} {K : K0} (h : Calls P 36 #[x0, x1] w (EndsS Kp K)) : S P (vcall (.func (.func 36) #[] #[]) #[x0, x1]) w Kp K := ⟨by
  have e : (vcall (.func (.func 36) #[] #[]) #[x0, x1]).run P w = .ok (.enter 36 #[x0, x1]) w := by kernel_rfl
  rw [e]; exact h⟩
/-- wisp/mem.New -/
theorem S_c37 {x0 : Value} {w : World} {Kp : KP} {K : K0} (h : Calls P 37 #[x0] w (EndsS Kp K)) : S P (vcall (.func (.func 37) #[] #[]) #[x0]) w Kp K := ⟨by
  have e : (vcall (.func (.func 37) #[] #[]) #[x0]).run P w = .ok (.enter 37 #[x0]) w := by kernel_rfl
  rw [e]; exact h⟩
/-- wisp/wispref04.New -/
theorem S_c38 {x0 : Value} {w : World} {Kp : KP} {K : K0} (h : Calls P 38 #[x0] w (EndsS Kp K)) : S P (vcall (.func (.func 38) #[] #[]) #[x0]) w Kp K := ⟨by
  have e : (vcall (.func (.func 38) #[] #[]) #[x0]).run P w = .ok (.enter 38 #[x0]) w := by kernel_rfl
  rw [e]; exact h⟩
/-- wisp/wispref06.Do -/
theorem S_c39 {x0 x1 x2 x3 : Value} {w : World} {Kp : KP} {K : K0} (h : Calls P 39 #[x0, x1, x2, x3] w (EndsS Kp K)) : S P (vcall (.func (.func 39) #[] #[]) #[x0, x1, x2, x3]) w Kp K := ⟨by
  have e : (vcall (.func (.func 39) #[] #[]) #[x0, x1, x2, x3]).run P w = .ok (.enter 39 #[x0, x1, x2, x3]) w := by kernel_rfl
  rw [e]; exact h⟩
/-- (*wisp/wisplaw06.world).near -/
theorem S_c40 {x0 x1 : Value} {w : World} {Kp : KP} {K : K0} (h : Calls P 40 #[x0, x1] w (EndsS Kp K)) : S P (vcall (.func (.func 40) #[] #[]) #[x0, x1]) w Kp K := ⟨by
  have e : (vcall (.func (.func 40) #[] #[]) #[x0, x1]).run P w = .ok (.enter 40 #[x0, x1]) w := by kernel_rfl
  rw [e]; exact h⟩
/-- wisp/prim.entryOf -/
theorem S_c41 {x0 : Value} {w : World} {Kp : KP} {K : K0} (h : Calls P 41 #[x0] w (EndsS Kp K)) : S P (vcall (.func (.func 41) #[] #[]) #[x0]) w Kp K := ⟨by
  have e : (vcall (.func (.func 41) #[] #[]) #[x0]).run P w = .ok (.enter 41 #[x0]) w := by kernel_rfl
  rw [e]; exact h⟩
/-- (*wisp/stack.Data).Need -/
theorem S_c42 {x0 x1 x2 : Value} {w : World} {Kp : KP} {K : K0} (h : Calls P 42 #[x0, x1, x2] w (EndsS Kp K)) : S P (vcall (.func (.func 42) #[] #[]) #[x0, x1, x2]) w Kp K := ⟨by
  have e : (vcall (.func (.func 42) #[] #[]) #[x0, x1, x2]).run P w = .ok (.enter 42 #[x0, x1, x2]) w := by kernel_rfl
  rw [e]; exact h⟩
/-- wisp/prim.looks -/
theorem S_c43 {x0 x1 : Value} {w : World} {Kp : KP} {K : K0} (h : Calls P 43 #[x0, x1] w (EndsS Kp K)) : S P (vcall (.func (.func 43) #[] #[]) #[x0, x1]) w Kp K := ⟨by
  have e : (vcall (.func (.func 43) #[] #[]) #[x0, x1]).run P w = .ok (.enter 43 #[x0, x1]) w := by kernel_rfl
  rw [e]; exact h⟩
/-- (*wisp/stack.Return).Len -/
theorem S_c44 {x0 : Value} {w : World} {Kp : KP} {K : K0} (h : Calls P 44 #[x0] w (EndsS Kp K)) : S P (vcall (.func (.func 44) #[] #[]) #[x0]) w Kp K := ⟨by
  have e : (vcall (.func (.func 44) #[] #[]) #[x0]).run P w = .ok (.enter 44 #[x0]) w := by kernel_rfl
  rw [e]; exact h⟩
/-- wisp/prim.adds -/
theorem S_c45 {x0 : Value} {w : World} {Kp : KP} {K : K0} (h : Calls P 45 #[x0] w (EndsS Kp K)) : S P (vcall (.func (.func 45) #[] #[]) #[x0]) w Kp K := ⟨by
  have e : (vcall (.func (.func 45) #[] #[]) #[x0]).run P w = .ok (.enter 45 #[x0]) w := by kernel_rfl
  rw [e]; exact h⟩
/-- wisp/wispref05.SameReturn -/
theorem S_c46 {x0 x1 : Value} {w : World} {Kp : KP} {K : K0} (h : Calls P 46 #[x0, x1] w (EndsS Kp K)) : S P (vcall (.func (.func 46) #[] #[]) #[x0, x1]) w Kp K := ⟨by
  have e : (vcall (.func (.func 46) #[] #[]) #[x0, x1]).run P w = .ok (.enter 46 #[x0, x1]) w := by kernel_rfl
  rw [e]; exact h⟩
/-- (*wisp/mem.Memory).Tones -/
theorem S_c50 {x0 : Value} {w : World} {Kp : KP} {K : K0} (h : Calls P 50 #[x0] w (EndsS Kp K)) : S P (vcall (.func (.func 50) #[] #[]) #[x0]) w Kp K := ⟨by
  have e : (vcall (.func (.func 50) #[] #[]) #[x0]).run P w = .ok (.enter 50 #[x0]) w := by kernel_rfl
  rw [e]; exact h⟩
/-- wisp/wispref04.SameTones -/
theorem S_c51 {x0 x1 : Value} {w : World} {Kp : KP} {K : K0} (h : Calls P 51 #[x0, x1] w (EndsS Kp K)) : S P (vcall (.func (.func 51) #[] #[]) #[x0, x1]) w Kp K := ⟨by
  have e : (vcall (.func (.func 51) #[] #[]) #[x0, x1]).run P w = .ok (.enter 51 #[x0, x1]) w := by kernel_rfl
  rw [e]; exact h⟩
/-- wisp/prim.primOf -/
theorem S_c52 {x0 : Value} {w : World} {Kp : KP} {K : K0} (h : Calls P 52 #[x0] w (EndsS Kp K)) : S P (vcall (.func (.func 52) #[] #[]) #[x0]) w Kp K := ⟨by
  have e : (vcall (.func (.func 52) #[] #[]) #[x0]).run P w = .ok (.enter 52 #[x0]) w := by kernel_rfl
  rw [e]; exact h⟩
/-- (*wisp/stack.Data).inner -/
theorem S_c53 {x0 : Value} {w : World} {Kp : KP} {K : K0} (h : Calls P 53 #[x0] w (EndsS Kp K)) : S P (vcall (.func (.func 53) #[] #[]) #[x0]) w Kp K := ⟨by
  have e : (vcall (.func (.func 53) #[] #[]) #[x0]).run P w = .ok (.enter 53 #[x0]) w := by kernel_rfl
  rw [e]; exact h⟩
/-- (*wisp/stack.pile[uint16]).all -/
theorem S_c54 {x0 : Value} {w : World} {Kp : KP} {K : K0} (h : Calls P 54 #[x0] w (EndsS Kp K)) : S P (vcall (.func (.func 54) #[] #[]) #[x0]) w Kp K := ⟨by
  have e : (vcall (.func (.func 54) #[] #[]) #[x0]).run P w = .ok (.enter 54 #[x0]) w := by kernel_rfl
  rw [e]; exact h⟩
/-- (*wisp/stack.Return).inner -/
theorem S_c55 {x0 : Value} {w : World} {Kp : KP} {K : K0} (h : Calls P 55 #[x0] w (EndsS Kp K)) : S P (vcall (.func (.func 55) #[] #[]) #[x0]) w Kp K := ⟨by
  have e : (vcall (.func (.func 55) #[] #[]) #[x0]).run P w = .ok (.enter 55 #[x0]) w := by kernel_rfl
  rw [e]; exact h⟩
/-- (*wisp/stack.pile[wisp/api.Cell]).all -/
theorem S_c56 {x0 : Value} {w : World} {Kp : KP} {K : K0} (h : Calls P 56 #[x0] w (EndsS Kp K)) : S P (vcall (.func (.func 56) #[] #[]) #[x0]) w Kp K := ⟨by
  have e : (vcall (.func (.func 56) #[] #[]) #[x0]).run P w = .ok (.enter 56 #[x0]) w := by kernel_rfl
  rw [e]; exact h⟩
/-- (*wisp/stack.pile[uint16]).put -/
theorem S_c57 {x0 x1 x2 : Value} {w : World} {Kp : KP} {K : K0} (h : Calls P 57 #[x0, x1, x2] w (EndsS Kp K)) : S P (vcall (.func (.func 57) #[] #[]) #[x0, x1, x2]) w Kp K := ⟨by
  have e : (vcall (.func (.func 57) #[] #[]) #[x0, x1, x2]).run P w = .ok (.enter 57 #[x0, x1, x2]) w := by kernel_rfl
  rw [e]; exact h⟩
/-- (*wisp/stack.pile[wisp/api.Cell]).put -/
theorem S_c58 {x0 x1 x2 : Value} {w : World} {Kp : KP} {K : K0} (h : Calls P 58 #[x0, x1, x2] w (EndsS Kp K)) : S P (vcall (.func (.func 58) #[] #[]) #[x0, x1, x2]) w Kp K := ⟨by
  have e : (vcall (.func (.func 58) #[] #[]) #[x0, x1, x2]).run P w = .ok (.enter 58 #[x0, x1, x2]) w := by kernel_rfl
  rw [e]; exact h⟩
/-- (*wisp/wispref04.Memory).bank -/
theorem S_c59 {x0 : Value} {w : World} {Kp : KP} {K : K0} (h : Calls P 59 #[x0] w (EndsS Kp K)) : S P (vcall (.func (.func 59) #[] #[]) #[x0]) w Kp K := ⟨by
  have e : (vcall (.func (.func 59) #[] #[]) #[x0]).run P w = .ok (.enter 59 #[x0]) w := by kernel_rfl
  rw [e]; exact h⟩
/-- wisp/prim.All -/
theorem S_c60 {w : World} {Kp : KP} {K : K0} (h : Calls P 60 #[] w (EndsS Kp K)) : S P (vcall (.func (.func 60) #[] #[]) #[]) w Kp K := ⟨by
  have e : (vcall (.func (.func 60) #[] #[]) #[]).run P w = .ok (.enter 60 #[]) w := by kernel_rfl
  rw [e]; exact h⟩
/-- wisp/wispref04.MayBanks -/
theorem S_c61 {x0 : Value} {w : World} {Kp : KP} {K : K0} (h : Calls P 61 #[x0] w (EndsS Kp K)) : S P (vcall (.func (.func 61) #[] #[]) #[x0]) w Kp K := ⟨by
  have e : (vcall (.func (.func 61) #[] #[]) #[x0]).run P w = .ok (.enter 61 #[x0]) w := by kernel_rfl
  rw [e]; exact h⟩
/-- wisp/wispref04.full -/
theorem S_c62 {x0 x1 : Value} {w : World} {Kp : KP} {K : K0} (h : Calls P 62 #[x0, x1] w (EndsS Kp K)) : S P (vcall (.func (.func 62) #[] #[]) #[x0, x1]) w Kp K := ⟨by
  have e : (vcall (.func (.func 62) #[] #[]) #[x0, x1]).run P w = .ok (.enter 62 #[x0, x1]) w := by kernel_rfl
  rw [e]; exact h⟩
/-- wisp/wispref06.Plain -/
theorem S_c63 {x0 : Value} {w : World} {Kp : KP} {K : K0} (h : Calls P 63 #[x0] w (EndsS Kp K)) : S P (vcall (.func (.func 63) #[] #[]) #[x0]) w Kp K := ⟨by
  have e : (vcall (.func (.func 63) #[] #[]) #[x0]).run P w = .ok (.enter 63 #[x0]) w := by kernel_rfl
  rw [e]; exact h⟩
/-- wisp/wispref06.May -/
theorem S_c64 {x0 x1 x2 : Value} {w : World} {Kp : KP} {K : K0} (h : Calls P 64 #[x0, x1, x2] w (EndsS Kp K)) : S P (vcall (.func (.func 64) #[] #[]) #[x0, x1, x2]) w Kp K := ⟨by
  have e : (vcall (.func (.func 64) #[] #[]) #[x0, x1, x2]).run P w = .ok (.enter 64 #[x0, x1, x2]) w := by kernel_rfl
  rw [e]; exact h⟩
/-- wisp/wispref06.row -/
theorem S_c65 {x0 : Value} {w : World} {Kp : KP} {K : K0} (h : Calls P 65 #[x0] w (EndsS Kp K)) : S P (vcall (.func (.func 65) #[] #[]) #[x0]) w Kp K := ⟨by
  have e : (vcall (.func (.func 65) #[] #[]) #[x0]).run P w = .ok (.enter 65 #[x0]) w := by kernel_rfl
  rw [e]; exact h⟩
/-- wisp/wispref06.shuffles -/
theorem S_c66 {x0 x1 : Value} {w : World} {Kp : KP} {K : K0} (h : Calls P 66 #[x0, x1] w (EndsS Kp K)) : S P (vcall (.func (.func 66) #[] #[]) #[x0, x1]) w Kp K := ⟨by
  have e : (vcall (.func (.func 66) #[] #[]) #[x0, x1]).run P w = .ok (.enter 66 #[x0, x1]) w := by kernel_rfl
  rw [e]; exact h⟩
/-- wisp/wispref06.returns -/
theorem S_c67 {x0 x1 x2 : Value} {w : World} {Kp : KP} {K : K0} (h : Calls P 67 #[x0, x1, x2] w (EndsS Kp K)) : S P (vcall (.func (.func 67) #[] #[]) #[x0, x1, x2]) w Kp K := ⟨by
  have e : (vcall (.func (.func 67) #[] #[]) #[x0, x1, x2]).run P w = .ok (.enter 67 #[x0, x1, x2]) w := by kernel_rfl
  rw [e]; exact h⟩
/-- wisp/wispref06.memory -/
theorem S_c68 {x0 x1 x2 : Value} {w : World} {Kp : KP} {K : K0} (h : Calls P 68 #[x0, x1, x2] w (EndsS Kp K)) : S P (vcall (.func (.func 68) #[] #[]) #[x0, x1, x2]) w Kp K := ⟨by
  have e : (vcall (.func (.func 68) #[] #[]) #[x0, x1, x2]).run P w = .ok (.enter 68 #[x0, x1, x2]) w := by kernel_rfl
  rw [e]; exact h⟩
/-- wisp/wispref01.Unary -/
theorem S_c69 {x0 x1 : Value} {w : World} {Kp : KP} {K : K0} (h : Calls P 69 #[x0, x1] w (EndsS Kp K)) : S P (vcall (.func (.func 69) #[] #[]) #[x0, x1]) w Kp K := ⟨by
  have e : (vcall (.func (.func 69) #[] #[]) #[x0, x1]).run P w = .ok (.enter 69 #[x0, x1]) w := by kernel_rfl
  rw [e]; exact h⟩
/-- wisp/wispref01.Binary -/
theorem S_c70 {x0 x1 x2 : Value} {w : World} {Kp : KP} {K : K0} (h : Calls P 70 #[x0, x1, x2] w (EndsS Kp K)) : S P (vcall (.func (.func 70) #[] #[]) #[x0, x1, x2]) w Kp K := ⟨by
  have e : (vcall (.func (.func 70) #[] #[]) #[x0, x1, x2]).run P w = .ok (.enter 70 #[x0, x1, x2]) w := by kernel_rfl
  rw [e]; exact h⟩
/-- (*wisp/mem.Memory).Cell -/
theorem S_c71 {x0 x1 : Value} {w : World} {Kp : KP} {K : K0} (h : Calls P 71 #[x0, x1] w (EndsS Kp K)) : S P (vcall (.func (.func 71) #[] #[]) #[x0, x1]) w Kp K := ⟨by
  have e : (vcall (.func (.func 71) #[] #[]) #[x0, x1]).run P w = .ok (.enter 71 #[x0, x1]) w := by kernel_rfl
  rw [e]; exact h⟩
/-- (*wisp/wispref04.Memory).Cell -/
theorem S_c72 {x0 x1 : Value} {w : World} {Kp : KP} {K : K0} (h : Calls P 72 #[x0, x1] w (EndsS Kp K)) : S P (vcall (.func (.func 72) #[] #[]) #[x0, x1]) w Kp K := ⟨by
  have e : (vcall (.func (.func 72) #[] #[]) #[x0, x1]).run P w = .ok (.enter 72 #[x0, x1]) w := by kernel_rfl
  rw [e]; exact h⟩
/-- wisp/prim.does -/
theorem S_c73 {x0 : Value} {w : World} {Kp : KP} {K : K0} (h : Calls P 73 #[x0] w (EndsS Kp K)) : S P (vcall (.func (.func 73) #[] #[]) #[x0]) w Kp K := ⟨by
  have e : (vcall (.func (.func 73) #[] #[]) #[x0]).run P w = .ok (.enter 73 #[x0]) w := by kernel_rfl
  rw [e]; exact h⟩
/-- (*wisp/stack.pile[uint16]).size -/
theorem S_c74 {x0 : Value} {w : World} {Kp : KP} {K : K0} (h : Calls P 74 #[x0] w (EndsS Kp K)) : S P (vcall (.func (.func 74) #[] #[]) #[x0]) w Kp K := ⟨by
  have e : (vcall (.func (.func 74) #[] #[]) #[x0]).run P w = .ok (.enter 74 #[x0]) w := by kernel_rfl
  rw [e]; exact h⟩
/-- (*wisp/stack.Return).At -/
theorem S_c75 {x0 x1 x2 : Value} {w : World} {Kp : KP} {K : K0} (h : Calls P 75 #[x0, x1, x2] w (EndsS Kp K)) : S P (vcall (.func (.func 75) #[] #[]) #[x0, x1, x2]) w Kp K := ⟨by
  have e : (vcall (.func (.func 75) #[] #[]) #[x0, x1, x2]).run P w = .ok (.enter 75 #[x0, x1, x2]) w := by kernel_rfl
  rw [e]; exact h⟩
/-- (*wisp/stack.pile[wisp/api.Cell]).size -/
theorem S_c76 {x0 : Value} {w : World} {Kp : KP} {K : K0} (h : Calls P 76 #[x0] w (EndsS Kp K)) : S P (vcall (.func (.func 76) #[] #[]) #[x0]) w Kp K := ⟨by
  have e : (vcall (.func (.func 76) #[] #[]) #[x0]).run P w = .ok (.enter 76 #[x0]) w := by kernel_rfl
  rw [e]; exact h⟩
/-- slices.Clone[[]wisp/api.Tone,wisp/api.Tone] -/
theorem S_c83 {x0 : Value} {w : World} {Kp : KP} {K : K0} (h : Calls P 83 #[x0] w (EndsS Kp K)) : S P (vcall (.func (.func 83) #[] #[]) #[x0]) w Kp K := ⟨by
  have e : (vcall (.func (.func 83) #[] #[]) #[x0]).run P w = .ok (.enter 83 #[x0]) w := by kernel_rfl
  rw [e]; exact h⟩
/-- (*wisp/stack.pile[uint16]).room -/
theorem S_c84 {x0 x1 x2 : Value} {w : World} {Kp : KP} {K : K0} (h : Calls P 84 #[x0, x1, x2] w (EndsS Kp K)) : S P (vcall (.func (.func 84) #[] #[]) #[x0, x1, x2]) w Kp K := ⟨by
  have e : (vcall (.func (.func 84) #[] #[]) #[x0, x1, x2]).run P w = .ok (.enter 84 #[x0, x1, x2]) w := by kernel_rfl
  rw [e]; exact h⟩
/-- (*wisp/stack.pile[wisp/api.Cell]).room -/
theorem S_c85 {x0 x1 x2 : Value} {w : World} {Kp : KP} {K : K0} (h : Calls P 85 #[x0, x1, x2] w (EndsS Kp K)) : S P (vcall (.func (.func 85) #[] #[]) #[x0, x1, x2]) w Kp K := ⟨by
  have e : (vcall (.func (.func 85) #[] #[]) #[x0, x1, x2]).run P w = .ok (.enter 85 #[x0, x1, x2]) w := by kernel_rfl
  rw [e]; exact h⟩
/-- (*wisp/wispref05.Data).Need -/
theorem S_c87 {x0 x1 x2 : Value} {w : World} {Kp : KP} {K : K0} (h : Calls P 87 #[x0, x1, x2] w (EndsS Kp K)) : S P (vcall (.func (.func 87) #[] #[]) #[x0, x1, x2]) w Kp K := ⟨by
  have e : (vcall (.func (.func 87) #[] #[]) #[x0, x1, x2]).run P w = .ok (.enter 87 #[x0, x1, x2]) w := by kernel_rfl
  rw [e]; exact h⟩
/-- wisp/wispref06.looks -/
theorem S_c88 {x0 x1 : Value} {w : World} {Kp : KP} {K : K0} (h : Calls P 88 #[x0, x1] w (EndsS Kp K)) : S P (vcall (.func (.func 88) #[] #[]) #[x0, x1]) w Kp K := ⟨by
  have e : (vcall (.func (.func 88) #[] #[]) #[x0, x1]).run P w = .ok (.enter 88 #[x0, x1]) w := by kernel_rfl
  rw [e]; exact h⟩
/-- wisp/wispref06.lower -/
theorem S_c89 {x0 : Value} {w : World} {Kp : KP} {K : K0} (h : Calls P 89 #[x0] w (EndsS Kp K)) : S P (vcall (.func (.func 89) #[] #[]) #[x0]) w Kp K := ⟨by
  have e : (vcall (.func (.func 89) #[] #[]) #[x0]).run P w = .ok (.enter 89 #[x0]) w := by kernel_rfl
  rw [e]; exact h⟩
/-- wisp/wispref06.middle -/
theorem S_c90 {x0 : Value} {w : World} {Kp : KP} {K : K0} (h : Calls P 90 #[x0] w (EndsS Kp K)) : S P (vcall (.func (.func 90) #[] #[]) #[x0]) w Kp K := ⟨by
  have e : (vcall (.func (.func 90) #[] #[]) #[x0]).run P w = .ok (.enter 90 #[x0]) w := by kernel_rfl
  rw [e]; exact h⟩
/-- wisp/wispref06.upper -/
theorem S_c91 {x0 : Value} {w : World} {Kp : KP} {K : K0} (h : Calls P 91 #[x0] w (EndsS Kp K)) : S P (vcall (.func (.func 91) #[] #[]) #[x0]) w Kp K := ⟨by
  have e : (vcall (.func (.func 91) #[] #[]) #[x0]).run P w = .ok (.enter 91 #[x0]) w := by kernel_rfl
  rw [e]; exact h⟩
/-- (*wisp/wispref05.Return).Pop -/
theorem S_c92 {x0 x1 : Value} {w : World} {Kp : KP} {K : K0} (h : Calls P 92 #[x0, x1] w (EndsS Kp K)) : S P (vcall (.func (.func 92) #[] #[]) #[x0, x1]) w Kp K := ⟨by
  have e : (vcall (.func (.func 92) #[] #[]) #[x0, x1]).run P w = .ok (.enter 92 #[x0, x1]) w := by kernel_rfl
  rw [e]; exact h⟩
/-- (*wisp/wispref04.Memory).SetCell -/
theorem S_c93 {x0 x1 x2 : Value} {w : World} {Kp : KP} {K : K0} (h : Calls P 93 #[x0, x1, x2] w (EndsS Kp K)) : S P (vcall (.func (.func 93) #[] #[]) #[x0, x1, x2]) w Kp K := ⟨by
  have e : (vcall (.func (.func 93) #[] #[]) #[x0, x1, x2]).run P w = .ok (.enter 93 #[x0, x1, x2]) w := by kernel_rfl
  rw [e]; exact h⟩
/-- (*wisp/wispref04.Memory).Load -/
theorem S_c94 {x0 x1 : Value} {w : World} {Kp : KP} {K : K0} (h : Calls P 94 #[x0, x1] w (EndsS Kp K)) : S P (vcall (.func (.func 94) #[] #[]) #[x0, x1]) w Kp K := ⟨by
  have e : (vcall (.func (.func 94) #[] #[]) #[x0, x1]).run P w = .ok (.enter 94 #[x0, x1]) w := by kernel_rfl
  rw [e]; exact h⟩
/-- (*wisp/wispref04.Memory).Plot -/
theorem S_c95 {x0 x1 x2 x3 : Value} {w : World} {Kp : KP} {K : K0} (h : Calls P 95 #[x0, x1, x2, x3] w (EndsS Kp K)) : S P (vcall (.func (.func 95) #[] #[]) #[x0, x1, x2, x3]) w Kp K := ⟨by
  have e : (vcall (.func (.func 95) #[] #[]) #[x0, x1, x2, x3]).run P w = .ok (.enter 95 #[x0, x1, x2, x3]) w := by kernel_rfl
  rw [e]; exact h⟩
/-- (*wisp/wispref04.Memory).Play -/
theorem S_c96 {x0 x1 x2 : Value} {w : World} {Kp : KP} {K : K0} (h : Calls P 96 #[x0, x1, x2] w (EndsS Kp K)) : S P (vcall (.func (.func 96) #[] #[]) #[x0, x1, x2]) w Kp K := ⟨by
  have e : (vcall (.func (.func 96) #[] #[]) #[x0, x1, x2]).run P w = .ok (.enter 96 #[x0, x1, x2]) w := by kernel_rfl
  rw [e]; exact h⟩
/-- (*wisp/wispref04.Memory).Choose -/
theorem S_c97 {x0 x1 : Value} {w : World} {Kp : KP} {K : K0} (h : Calls P 97 #[x0, x1] w (EndsS Kp K)) : S P (vcall (.func (.func 97) #[] #[]) #[x0, x1]) w Kp K := ⟨by
  have e : (vcall (.func (.func 97) #[] #[]) #[x0, x1]).run P w = .ok (.enter 97 #[x0, x1]) w := by kernel_rfl
  rw [e]; exact h⟩
/-- wisp/wispref01.Signed -/
theorem S_c98 {x0 : Value} {w : World} {Kp : KP} {K : K0} (h : Calls P 98 #[x0] w (EndsS Kp K)) : S P (vcall (.func (.func 98) #[] #[]) #[x0]) w Kp K := ⟨by
  have e : (vcall (.func (.func 98) #[] #[]) #[x0]).run P w = .ok (.enter 98 #[x0]) w := by kernel_rfl
  rw [e]; exact h⟩
/-- wisp/wispref01.Cell -/
theorem S_c99 {x0 : Value} {w : World} {Kp : KP} {K : K0} (h : Calls P 99 #[x0] w (EndsS Kp K)) : S P (vcall (.func (.func 99) #[] #[]) #[x0]) w Kp K := ⟨by
  have e : (vcall (.func (.func 99) #[] #[]) #[x0]).run P w = .ok (.enter 99 #[x0]) w := by kernel_rfl
  rw [e]; exact h⟩
/-- wisp/wispref01.half -/
theorem S_c100 {x0 : Value} {w : World} {Kp : KP} {K : K0} (h : Calls P 100 #[x0] w (EndsS Kp K)) : S P (vcall (.func (.func 100) #[] #[]) #[x0]) w Kp K := ⟨by
  have e : (vcall (.func (.func 100) #[] #[]) #[x0]).run P w = .ok (.enter 100 #[x0]) w := by kernel_rfl
  rw [e]; exact h⟩
/-- wisp/wispref01.Flag -/
theorem S_c101 {x0 : Value} {w : World} {Kp : KP} {K : K0} (h : Calls P 101 #[x0] w (EndsS Kp K)) : S P (vcall (.func (.func 101) #[] #[]) #[x0]) w Kp K := ⟨by
  have e : (vcall (.func (.func 101) #[] #[]) #[x0]).run P w = .ok (.enter 101 #[x0]) w := by kernel_rfl
  rw [e]; exact h⟩
/-- wisp/wispref01.divides -/
theorem S_c102 {x0 x1 x2 : Value} {w : World} {Kp : KP} {K : K0} (h : Calls P 102 #[x0, x1, x2] w (EndsS Kp K)) : S P (vcall (.func (.func 102) #[] #[]) #[x0, x1, x2]) w Kp K := ⟨by
  have e : (vcall (.func (.func 102) #[] #[]) #[x0, x1, x2]).run P w = .ok (.enter 102 #[x0, x1, x2]) w := by kernel_rfl
  rw [e]; exact h⟩
/-- wisp/wispref01.bits -/
theorem S_c103 {x0 x1 x2 : Value} {w : World} {Kp : KP} {K : K0} (h : Calls P 103 #[x0, x1, x2] w (EndsS Kp K)) : S P (vcall (.func (.func 103) #[] #[]) #[x0, x1, x2]) w Kp K := ⟨by
  have e : (vcall (.func (.func 103) #[] #[]) #[x0, x1, x2]).run P w = .ok (.enter 103 #[x0, x1, x2]) w := by kernel_rfl
  rw [e]; exact h⟩
/-- wisp/wispref01.power -/
theorem S_c104 {x0 : Value} {w : World} {Kp : KP} {K : K0} (h : Calls P 104 #[x0] w (EndsS Kp K)) : S P (vcall (.func (.func 104) #[] #[]) #[x0]) w Kp K := ⟨by
  have e : (vcall (.func (.func 104) #[] #[]) #[x0]).run P w = .ok (.enter 104 #[x0]) w := by kernel_rfl
  rw [e]; exact h⟩
/-- (*wisp/mem.Memory).Load -/
theorem S_c105 {x0 x1 : Value} {w : World} {Kp : KP} {K : K0} (h : Calls P 105 #[x0, x1] w (EndsS Kp K)) : S P (vcall (.func (.func 105) #[] #[]) #[x0, x1]) w Kp K := ⟨by
  have e : (vcall (.func (.func 105) #[] #[]) #[x0, x1]).run P w = .ok (.enter 105 #[x0, x1]) w := by kernel_rfl
  rw [e]; exact h⟩
/-- wisp/num.Unary -/
theorem S_c106 {x0 x1 : Value} {w : World} {Kp : KP} {K : K0} (h : Calls P 106 #[x0, x1] w (EndsS Kp K)) : S P (vcall (.func (.func 106) #[] #[]) #[x0, x1]) w Kp K := ⟨by
  have e : (vcall (.func (.func 106) #[] #[]) #[x0, x1]).run P w = .ok (.enter 106 #[x0, x1]) w := by kernel_rfl
  rw [e]; exact h⟩
/-- wisp/prim.one -/
theorem S_c107 {x0 : Value} {w : World} {Kp : KP} {K : K0} (h : Calls P 107 #[x0] w (EndsS Kp K)) : S P (vcall (.func (.func 107) #[] #[]) #[x0]) w Kp K := ⟨by
  have e : (vcall (.func (.func 107) #[] #[]) #[x0]).run P w = .ok (.enter 107 #[x0]) w := by kernel_rfl
  rw [e]; exact h⟩
/-- wisp/num.Binary -/
theorem S_c108 {x0 x1 x2 : Value} {w : World} {Kp : KP} {K : K0} (h : Calls P 108 #[x0, x1, x2] w (EndsS Kp K)) : S P (vcall (.func (.func 108) #[] #[]) #[x0, x1, x2]) w Kp K := ⟨by
  have e : (vcall (.func (.func 108) #[] #[]) #[x0, x1, x2]).run P w = .ok (.enter 108 #[x0, x1, x2]) w := by kernel_rfl
  rw [e]; exact h⟩
/-- wisp/prim.two -/
theorem S_c109 {x0 : Value} {w : World} {Kp : KP} {K : K0} (h : Calls P 109 #[x0] w (EndsS Kp K)) : S P (vcall (.func (.func 109) #[] #[]) #[x0]) w Kp K := ⟨by
  have e : (vcall (.func (.func 109) #[] #[]) #[x0]).run P w = .ok (.enter 109 #[x0]) w := by kernel_rfl
  rw [e]; exact h⟩
/-- wisp/prim.doNothing -/
theorem S_c110 {x0 : Value} {w : World} {Kp : KP} {K : K0} (h : Calls P 110 #[x0] w (EndsS Kp K)) : S P (vcall (.func (.func 110) #[] #[]) #[x0]) w Kp K := ⟨by
  have e : (vcall (.func (.func 110) #[] #[]) #[x0]).run P w = .ok (.enter 110 #[x0]) w := by kernel_rfl
  rw [e]; exact h⟩
/-- wisp/prim.shuffle -/
theorem S_c111 {x0 x1 : Value} {w : World} {Kp : KP} {K : K0} (h : Calls P 111 #[x0, x1] w (EndsS Kp K)) : S P (vcall (.func (.func 111) #[] #[]) #[x0, x1]) w Kp K := ⟨by
  have e : (vcall (.func (.func 111) #[] #[]) #[x0, x1]).run P w = .ok (.enter 111 #[x0, x1]) w := by kernel_rfl
  rw [e]; exact h⟩
/-- wisp/prim.doesOf -/
theorem S_c112 {x0 : Value} {w : World} {Kp : KP} {K : K0} (h : Calls P 112 #[x0] w (EndsS Kp K)) : S P (vcall (.func (.func 112) #[] #[]) #[x0]) w Kp K := ⟨by
  have e : (vcall (.func (.func 112) #[] #[]) #[x0]).run P w = .ok (.enter 112 #[x0]) w := by kernel_rfl
  rw [e]; exact h⟩
/-- (*wisp/stack.pile[wisp/api.Cell]).top -/
theorem S_c113 {x0 x1 : Value} {w : World} {Kp : KP} {K : K0} (h : Calls P 113 #[x0, x1] w (EndsS Kp K)) : S P (vcall (.func (.func 113) #[] #[]) #[x0, x1]) w Kp K := ⟨by
  have e : (vcall (.func (.func 113) #[] #[]) #[x0, x1]).run P w = .ok (.enter 113 #[x0, x1]) w := by kernel_rfl
  rw [e]; exact h⟩
/-- (*wisp/wispref05.Return).At -/
theorem S_c117 {x0 x1 x2 : Value} {w : World} {Kp : KP} {K : K0} (h : Calls P 117 #[x0, x1, x2] w (EndsS Kp K)) : S P (vcall (.func (.func 117) #[] #[]) #[x0, x1, x2]) w Kp K := ⟨by
  have e : (vcall (.func (.func 117) #[] #[]) #[x0, x1, x2]).run P w = .ok (.enter 117 #[x0, x1, x2]) w := by kernel_rfl
  rw [e]; exact h⟩
/-- wisp/wispref01.quotient -/
theorem S_c118 {x0 x1 : Value} {w : World} {Kp : KP} {K : K0} (h : Calls P 118 #[x0, x1] w (EndsS Kp K)) : S P (vcall (.func (.func 118) #[] #[]) #[x0, x1]) w Kp K := ⟨by
  have e : (vcall (.func (.func 118) #[] #[]) #[x0, x1]).run P w = .ok (.enter 118 #[x0, x1]) w := by kernel_rfl
  rw [e]; exact h⟩
/-- wisp/num.Cell -/
theorem S_c119 {x0 : Value} {w : World} {Kp : KP} {K : K0} (h : Calls P 119 #[x0] w (EndsS Kp K)) : S P (vcall (.func (.func 119) #[] #[]) #[x0]) w Kp K := ⟨by
  have e : (vcall (.func (.func 119) #[] #[]) #[x0]).run P w = .ok (.enter 119 #[x0]) w := by kernel_rfl
  rw [e]; exact h⟩
/-- wisp/num.Signed -/
theorem S_c120 {x0 : Value} {w : World} {Kp : KP} {K : K0} (h : Calls P 120 #[x0] w (EndsS Kp K)) : S P (vcall (.func (.func 120) #[] #[]) #[x0]) w Kp K := ⟨by
  have e : (vcall (.func (.func 120) #[] #[]) #[x0]).run P w = .ok (.enter 120 #[x0]) w := by kernel_rfl
  rw [e]; exact h⟩
/-- wisp/num.Flag -/
theorem S_c121 {x0 : Value} {w : World} {Kp : KP} {K : K0} (h : Calls P 121 #[x0] w (EndsS Kp K)) : S P (vcall (.func (.func 121) #[] #[]) #[x0]) w Kp K := ⟨by
  have e : (vcall (.func (.func 121) #[] #[]) #[x0]).run P w = .ok (.enter 121 #[x0]) w := by kernel_rfl
  rw [e]; exact h⟩
/-- wisp/prim.one$1 -/
theorem S_c122 {x0 y0 : Value} {w : World} {Kp : KP} {K : K0} (h : Calls P 122 #[x0, y0] w (EndsS Kp K)) : S P (vcall (.func (.func 122) #[] #[y0]) #[x0]) w Kp K := ⟨by
  have e : (vcall (.func (.func 122) #[] #[y0]) #[x0]).run P w = .ok (.enter 122 #[x0, y0]) w := by kernel_rfl
  rw [e]; exact h⟩
/-- (*wisp/stack.Data).Pop -/
theorem S_c123 {x0 : Value} {w : World} {Kp : KP} {K : K0} (h : Calls P 123 #[x0] w (EndsS Kp K)) : S P (vcall (.func (.func 123) #[] #[]) #[x0]) w Kp K := ⟨by
  have e : (vcall (.func (.func 123) #[] #[]) #[x0]).run P w = .ok (.enter 123 #[x0]) w := by kernel_rfl
  rw [e]; exact h⟩
/-- wisp/num.divided -/
theorem S_c124 {x0 x1 x2 : Value} {w : World} {Kp : KP} {K : K0} (h : Calls P 124 #[x0, x1, x2] w (EndsS Kp K)) : S P (vcall (.func (.func 124) #[] #[]) #[x0, x1, x2]) w Kp K := ⟨by
  have e : (vcall (.func (.func 124) #[] #[]) #[x0, x1, x2]).run P w = .ok (.enter 124 #[x0, x1, x2]) w := by kernel_rfl
  rw [e]; exact h⟩
/-- wisp/num.compared -/
theorem S_c125 {x0 x1 x2 : Value} {w : World} {Kp : KP} {K : K0} (h : Calls P 125 #[x0, x1, x2] w (EndsS Kp K)) : S P (vcall (.func (.func 125) #[] #[]) #[x0, x1, x2]) w Kp K := ⟨by
  have e : (vcall (.func (.func 125) #[] #[]) #[x0, x1, x2]).run P w = .ok (.enter 125 #[x0, x1, x2]) w := by kernel_rfl
  rw [e]; exact h⟩
/-- wisp/prim.two$1 -/
theorem S_c126 {x0 y0 : Value} {w : World} {Kp : KP} {K : K0} (h : Calls P 126 #[x0, y0] w (EndsS Kp K)) : S P (vcall (.func (.func 126) #[] #[y0]) #[x0]) w Kp K := ⟨by
  have e : (vcall (.func (.func 126) #[] #[y0]) #[x0]).run P w = .ok (.enter 126 #[x0, y0]) w := by kernel_rfl
  rw [e]; exact h⟩
/-- wisp/prim.shuffle$1 -/
theorem S_c127 {x0 y0 y1 : Value} {w : World} {Kp : KP} {K : K0} (h : Calls P 127 #[x0, y0, y1] w (EndsS Kp K)) : S P (vcall (.func (.func 127) #[] #[y0, y1]) #[x0]) w Kp K := ⟨by
  have e : (vcall (.func (.func 127) #[] #[y0, y1]) #[x0]).run P w = .ok (.enter 127 #[x0, y0, y1]) w := by kernel_rfl
  rw [e]; exact h⟩
/-- (*wisp/prim.desk).taken -/
theorem S_c128 {x0 x1 : Value} {w : World} {Kp : KP} {K : K0} (h : Calls P 128 #[x0, x1] w (EndsS Kp K)) : S P (vcall (.func (.func 128) #[] #[]) #[x0, x1]) w Kp K := ⟨by
  have e : (vcall (.func (.func 128) #[] #[]) #[x0, x1]).run P w = .ok (.enter 128 #[x0, x1]) w := by kernel_rfl
  rw [e]; exact h⟩
/-- wisp/prim.doDo -/
theorem S_c129 {x0 : Value} {w : World} {Kp : KP} {K : K0} (h : Calls P 129 #[x0] w (EndsS Kp K)) : S P (vcall (.func (.func 129) #[] #[]) #[x0]) w Kp K := ⟨by
  have e : (vcall (.func (.func 129) #[] #[]) #[x0]).run P w = .ok (.enter 129 #[x0]) w := by kernel_rfl
  rw [e]; exact h⟩
/-- wisp/prim.doFetch -/
theorem S_c130 {x0 : Value} {w : World} {Kp : KP} {K : K0} (h : Calls P 130 #[x0] w (EndsS Kp K)) : S P (vcall (.func (.func 130) #[] #[]) #[x0]) w Kp K := ⟨by
  have e : (vcall (.func (.func 130) #[] #[]) #[x0]).run P w = .ok (.enter 130 #[x0]) w := by kernel_rfl
  rw [e]; exact h⟩
/-- wisp/prim.doStore -/
theorem S_c131 {x0 : Value} {w : World} {Kp : KP} {K : K0} (h : Calls P 131 #[x0] w (EndsS Kp K)) : S P (vcall (.func (.func 131) #[] #[]) #[x0]) w Kp K := ⟨by
  have e : (vcall (.func (.func 131) #[] #[]) #[x0]).run P w = .ok (.enter 131 #[x0]) w := by kernel_rfl
  rw [e]; exact h⟩
/-- wisp/prim.doByte -/
theorem S_c132 {x0 : Value} {w : World} {Kp : KP} {K : K0} (h : Calls P 132 #[x0] w (EndsS Kp K)) : S P (vcall (.func (.func 132) #[] #[]) #[x0]) w Kp K := ⟨by
  have e : (vcall (.func (.func 132) #[] #[]) #[x0]).run P w = .ok (.enter 132 #[x0]) w := by kernel_rfl
  rw [e]; exact h⟩
/-- wisp/prim.doPut -/
theorem S_c133 {x0 : Value} {w : World} {Kp : KP} {K : K0} (h : Calls P 133 #[x0] w (EndsS Kp K)) : S P (vcall (.func (.func 133) #[] #[]) #[x0]) w Kp K := ⟨by
  have e : (vcall (.func (.func 133) #[] #[]) #[x0]).run P w = .ok (.enter 133 #[x0]) w := by kernel_rfl
  rw [e]; exact h⟩
/-- wisp/prim.doMore -/
theorem S_c134 {x0 : Value} {w : World} {Kp : KP} {K : K0} (h : Calls P 134 #[x0] w (EndsS Kp K)) : S P (vcall (.func (.func 134) #[] #[]) #[x0]) w Kp K := ⟨by
  have e : (vcall (.func (.func 134) #[] #[]) #[x0]).run P w = .ok (.enter 134 #[x0]) w := by kernel_rfl
  rw [e]; exact h⟩
/-- wisp/prim.doSave -/
theorem S_c135 {x0 : Value} {w : World} {Kp : KP} {K : K0} (h : Calls P 135 #[x0] w (EndsS Kp K)) : S P (vcall (.func (.func 135) #[] #[]) #[x0]) w Kp K := ⟨by
  have e : (vcall (.func (.func 135) #[] #[]) #[x0]).run P w = .ok (.enter 135 #[x0]) w := by kernel_rfl
  rw [e]; exact h⟩
/-- wisp/prim.doBack -/
theorem S_c136 {x0 : Value} {w : World} {Kp : KP} {K : K0} (h : Calls P 136 #[x0] w (EndsS Kp K)) : S P (vcall (.func (.func 136) #[] #[]) #[x0]) w Kp K := ⟨by
  have e : (vcall (.func (.func 136) #[] #[]) #[x0]).run P w = .ok (.enter 136 #[x0]) w := by kernel_rfl
  rw [e]; exact h⟩
/-- wisp/prim.doSee -/
theorem S_c137 {x0 : Value} {w : World} {Kp : KP} {K : K0} (h : Calls P 137 #[x0] w (EndsS Kp K)) : S P (vcall (.func (.func 137) #[] #[]) #[x0]) w Kp K := ⟨by
  have e : (vcall (.func (.func 137) #[] #[]) #[x0]).run P w = .ok (.enter 137 #[x0]) w := by kernel_rfl
  rw [e]; exact h⟩
/-- wisp/prim.doIndex -/
theorem S_c138 {x0 : Value} {w : World} {Kp : KP} {K : K0} (h : Calls P 138 #[x0] w (EndsS Kp K)) : S P (vcall (.func (.func 138) #[] #[]) #[x0]) w Kp K := ⟨by
  have e : (vcall (.func (.func 138) #[] #[]) #[x0]).run P w = .ok (.enter 138 #[x0]) w := by kernel_rfl
  rw [e]; exact h⟩
/-- wisp/prim.doOuter -/
theorem S_c139 {x0 : Value} {w : World} {Kp : KP} {K : K0} (h : Calls P 139 #[x0] w (EndsS Kp K)) : S P (vcall (.func (.func 139) #[] #[]) #[x0]) w Kp K := ⟨by
  have e : (vcall (.func (.func 139) #[] #[]) #[x0]).run P w = .ok (.enter 139 #[x0]) w := by kernel_rfl
  rw [e]; exact h⟩
/-- wisp/prim.doPlot -/
theorem S_c140 {x0 : Value} {w : World} {Kp : KP} {K : K0} (h : Calls P 140 #[x0] w (EndsS Kp K)) : S P (vcall (.func (.func 140) #[] #[]) #[x0]) w Kp K := ⟨by
  have e : (vcall (.func (.func 140) #[] #[]) #[x0]).run P w = .ok (.enter 140 #[x0]) w := by kernel_rfl
  rw [e]; exact h⟩
/-- wisp/prim.doPad -/
theorem S_c141 {x0 : Value} {w : World} {Kp : KP} {K : K0} (h : Calls P 141 #[x0] w (EndsS Kp K)) : S P (vcall (.func (.func 141) #[] #[]) #[x0]) w Kp K := ⟨by
  have e : (vcall (.func (.func 141) #[] #[]) #[x0]).run P w = .ok (.enter 141 #[x0]) w := by kernel_rfl
  rw [e]; exact h⟩
/-- wisp/prim.doTone -/
theorem S_c142 {x0 : Value} {w : World} {Kp : KP} {K : K0} (h : Calls P 142 #[x0] w (EndsS Kp K)) : S P (vcall (.func (.func 142) #[] #[]) #[x0]) w Kp K := ⟨by
  have e : (vcall (.func (.func 142) #[] #[]) #[x0]).run P w = .ok (.enter 142 #[x0]) w := by kernel_rfl
  rw [e]; exact h⟩
/-- wisp/prim.doBank -/
theorem S_c143 {x0 : Value} {w : World} {Kp : KP} {K : K0} (h : Calls P 143 #[x0] w (EndsS Kp K)) : S P (vcall (.func (.func 143) #[] #[]) #[x0]) w Kp K := ⟨by
  have e : (vcall (.func (.func 143) #[] #[]) #[x0]).run P w = .ok (.enter 143 #[x0]) w := by kernel_rfl
  rw [e]; exact h⟩
/-- wisp/wispref01.away -/
theorem S_c147 {x0 : Value} {w : World} {Kp : KP} {K : K0} (h : Calls P 147 #[x0] w (EndsS Kp K)) : S P (vcall (.func (.func 147) #[] #[]) #[x0]) w Kp K := ⟨by
  have e : (vcall (.func (.func 147) #[] #[]) #[x0]).run P w = .ok (.enter 147 #[x0]) w := by kernel_rfl
  rw [e]; exact h⟩
/-- (*wisp/stack.pile[uint16]).take -/
theorem S_c148 {x0 : Value} {w : World} {Kp : KP} {K : K0} (h : Calls P 148 #[x0] w (EndsS Kp K)) : S P (vcall (.func (.func 148) #[] #[]) #[x0]) w Kp K := ⟨by
  have e : (vcall (.func (.func 148) #[] #[]) #[x0]).run P w = .ok (.enter 148 #[x0]) w := by kernel_rfl
  rw [e]; exact h⟩
/-- (*wisp/mem.Memory).SetCell -/
theorem S_c149 {x0 x1 x2 : Value} {w : World} {Kp : KP} {K : K0} (h : Calls P 149 #[x0, x1, x2] w (EndsS Kp K)) : S P (vcall (.func (.func 149) #[] #[]) #[x0, x1, x2]) w Kp K := ⟨by
  have e : (vcall (.func (.func 149) #[] #[]) #[x0, x1, x2]).run P w = .ok (.enter 149 #[x0, x1, x2]) w := by kernel_rfl
  rw [e]; exact h⟩
/-- (*wisp/stack.Return).Pop -/
theorem S_c150 {x0 x1 : Value} {w : World} {Kp : KP} {K : K0} (h : Calls P 150 #[x0, x1] w (EndsS Kp K)) : S P (vcall (.func (.func 150) #[] #[]) #[x0, x1]) w Kp K := ⟨by
  have e : (vcall (.func (.func 150) #[] #[]) #[x0, x1]).run P w = .ok (.enter 150 #[x0, x1]) w := by kernel_rfl
  rw [e]; exact h⟩
/-- (*wisp/prim.desk).sees -/
theorem S_c151 {x0 x1 x2 : Value} {w : World} {Kp : KP} {K : K0} (h : Calls P 151 #[x0, x1, x2] w (EndsS Kp K)) : S P (vcall (.func (.func 151) #[] #[]) #[x0, x1, x2]) w Kp K := ⟨by
  have e : (vcall (.func (.func 151) #[] #[]) #[x0, x1, x2]).run P w = .ok (.enter 151 #[x0, x1, x2]) w := by kernel_rfl
  rw [e]; exact h⟩
/-- (*wisp/mem.Memory).Plot -/
theorem S_c152 {x0 x1 x2 x3 : Value} {w : World} {Kp : KP} {K : K0} (h : Calls P 152 #[x0, x1, x2, x3] w (EndsS Kp K)) : S P (vcall (.func (.func 152) #[] #[]) #[x0, x1, x2, x3]) w Kp K := ⟨by
  have e : (vcall (.func (.func 152) #[] #[]) #[x0, x1, x2, x3]).run P w = .ok (.enter 152 #[x0, x1, x2, x3]) w := by kernel_rfl
  rw [e]; exact h⟩
/-- (*wisp/mem.Memory).Pad -/
theorem S_c153 {x0 : Value} {w : World} {Kp : KP} {K : K0} (h : Calls P 153 #[x0] w (EndsS Kp K)) : S P (vcall (.func (.func 153) #[] #[]) #[x0]) w Kp K := ⟨by
  have e : (vcall (.func (.func 153) #[] #[]) #[x0]).run P w = .ok (.enter 153 #[x0]) w := by kernel_rfl
  rw [e]; exact h⟩
/-- (*wisp/mem.Memory).Play -/
theorem S_c154 {x0 x1 x2 : Value} {w : World} {Kp : KP} {K : K0} (h : Calls P 154 #[x0, x1, x2] w (EndsS Kp K)) : S P (vcall (.func (.func 154) #[] #[]) #[x0, x1, x2]) w Kp K := ⟨by
  have e : (vcall (.func (.func 154) #[] #[]) #[x0, x1, x2]).run P w = .ok (.enter 154 #[x0, x1, x2]) w := by kernel_rfl
  rw [e]; exact h⟩
/-- (*wisp/mem.Memory).Choose -/
theorem S_c155 {x0 x1 : Value} {w : World} {Kp : KP} {K : K0} (h : Calls P 155 #[x0, x1] w (EndsS Kp K)) : S P (vcall (.func (.func 155) #[] #[]) #[x0, x1]) w Kp K := ⟨by
  have e : (vcall (.func (.func 155) #[] #[]) #[x0, x1]).run P w = .ok (.enter 155 #[x0, x1]) w := by kernel_rfl
  rw [e]; exact h⟩
/-- (*wisp/stack.pile[wisp/api.Cell]).take -/
theorem S_c167 {x0 : Value} {w : World} {Kp : KP} {K : K0} (h : Calls P 167 #[x0] w (EndsS Kp K)) : S P (vcall (.func (.func 167) #[] #[]) #[x0]) w Kp K := ⟨by
  have e : (vcall (.func (.func 167) #[] #[]) #[x0]).run P w = .ok (.enter 167 #[x0]) w := by kernel_rfl
  rw [e]; exact h⟩
end Go.Proofs.YtebmnfmiphbgdaaGreatDoor
namespace Go.Proofs.YtebmnfmiphbgdaaGreatDoor
open Go.Sh
set_option maxRecDepth 100000
theorem follows : P.follows .mixedOrders = true := by kernel_rfl
def bodyOf (f : Func) : Code := match f.body with | some c => c | none => .skip
/-- (*wisp/stack.pile[uint16]).room -/
def F84 (x0 x1 x2 : Value) (w : World) (Kp : KP) (K : K0) : Prop :=
  S P (vbin .neq 121 false true x0 (Value.pointer none)) w Kp fun v1 w =>
  GS v1 true P (vmove x1) w Kp fun v2 w =>
  GS v1 true P (vmove x2) w Kp fun v3 w =>
  GS v1 true P (vmove x0) w Kp fun v4 w =>
  GS v1 true P (vnil v4) w Kp fun v5 w =>
  GS v1 true P (vfield 132 v5 0) w Kp fun v6 w =>
  GS v1 true P (vload 22 v6) w Kp fun v7 w =>
  GS v1 true P (vblt .len #[22] 3 #[false] #[v7]) w Kp fun v8 w =>
  GS v1 true P (vbin .sub 3 false false v3 v8) w Kp fun v9 w =>
  GS v1 true P (vbin .leq 3 false false v2 v9) w Kp fun v10 w =>
  S P (vpick v1 v10 (Value.bool false)) w Kp fun v11 w =>
  K v11 w
theorem F84_eq (x0 x1 x2 : Value) (w : World) (Kp : KP) (K : K0) : F84 x0 x1 x2 w Kp K = wpE P [6] (bodyOf Tryz.f84) (postE P Tryz.f84.results.toList Kp K) (List.range 3 ++ [6]) (ε0 #[x0, x1, x2]) w := by kernel_rfl
theorem F84_calls {x0 x1 x2 : Value} {w : World} {Kp : KP} {K : K0} (h : F84 x0 x1 x2 w Kp K) : Calls P 84 #[x0, x1, x2] w (EndsS Kp K) :=
  calls_of follows [6] Tryz.func84 (by kernel_rfl) (by kernel_rfl) (by kernel_rfl) (F84_eq x0 x1 x2 w Kp K ▸ h)

/-- (*wisp/stack.pile[uint16]).put -/
def F57 (x0 x1 x2 : Value) (w : World) (Kp : KP) (K : K0) : Prop :=
  S P (vblt .len #[22] 3 #[false] #[x2]) w Kp fun v1 w =>
  S P (vbin .eql 3 false true v1 (Value.int IntKind.i64 0)) w Kp fun v2 w =>
  C v2 (K (Value.bool true) w)
  (S P (vblt .len #[22] 3 #[false] #[x2]) w Kp fun v3 w =>
  S P (vcall (Value.func (Fn.func 84) #[] #[]) #[x0, v3, x1]) w Kp fun v4 w =>
  S P (vun .not v4) w Kp fun v5 w =>
  C v5 (K (Value.bool false) w)
  (S P (vnil x0) w Kp fun v6 w =>
  S P (vfield 132 v6 0) w Kp fun v7 w =>
  S P (vload 22 v7) w Kp fun v8 w =>
  S P (vblt .append #[22, 22] 22 #[false, false] #[v8, x2]) w Kp fun v9 w =>
  S P (vnil x0) w Kp fun v10 w =>
  S P (vfield 132 v10 0) w Kp fun v11 w =>
  S P (vstore 22 v11 v9) w Kp fun v12 w =>
  K (Value.bool true) w))
theorem F57_eq (x0 x1 x2 : Value) (w : World) (Kp : KP) (K : K0) : F57 x0 x1 x2 w Kp K = wpE P [0, 1, 2, 6] (bodyOf Tryz.f57) (postE P Tryz.f57.results.toList Kp K) (List.range 3 ++ [0, 1, 2, 6]) (ε0 #[x0, x1, x2]) w := by kernel_rfl
theorem F57_calls {x0 x1 x2 : Value} {w : World} {Kp : KP} {K : K0} (h : F57 x0 x1 x2 w Kp K) : Calls P 57 #[x0, x1, x2] w (EndsS Kp K) :=
  calls_of follows [0, 1, 2, 6] Tryz.func57 (by kernel_rfl) (by kernel_rfl) (by kernel_rfl) (F57_eq x0 x1 x2 w Kp K ▸ h)

/-- (*wisp/stack.Data).Push -/
def F26 (x0 x1 : Value) (w : World) (Kp : KP) (K : K0) : Prop :=
  S P (vcall (Value.func (Fn.func 53) #[] #[]) #[x0]) w Kp fun v1 w =>
  S P (vcall (Value.func (Fn.func 57) #[] #[]) #[v1, (Value.int IntKind.i64 256), x1]) w Kp fun v2 w =>
  S P (vun .not v2) w Kp fun v3 w =>
  C v3 (K (Value.int IntKind.i64 2) w)
  (K (Value.int IntKind.i64 0) w)
theorem F26_eq (x0 x1 : Value) (w : World) (Kp : KP) (K : K0) : F26 x0 x1 w Kp K = wpE P [4] (bodyOf Tryz.f26) (postE P Tryz.f26.results.toList Kp K) (List.range 2 ++ [4]) (ε0 #[x0, x1]) w := by kernel_rfl
theorem F26_calls {x0 x1 : Value} {w : World} {Kp : KP} {K : K0} (h : F26 x0 x1 w Kp K) : Calls P 26 #[x0, x1] w (EndsS Kp K) :=
  calls_of follows [4] Tryz.func26 (by kernel_rfl) (by kernel_rfl) (by kernel_rfl) (F26_eq x0 x1 w Kp K ▸ h)

/-- (*wisp/stack.Data).inner -/
def F53 (x0 : Value) (w : World) (Kp : KP) (K : K0) : Prop :=
  S P (vbin .eql 32 false true x0 (Value.pointer none)) w Kp fun v1 w =>
  C v1 (K (Value.pointer none) w)
  (S P (vnil x0) w Kp fun v2 w =>
  S P (vfield 134 v2 0) w Kp fun v3 w =>
  K v3 w)
theorem F53_eq (x0 : Value) (w : World) (Kp : KP) (K : K0) : F53 x0 w Kp K = wpE P [0, 2] (bodyOf Tryz.f53) (postE P Tryz.f53.results.toList Kp K) (List.range 1 ++ [0, 2]) (ε0 #[x0]) w := by kernel_rfl
theorem F53_calls {x0 : Value} {w : World} {Kp : KP} {K : K0} (h : F53 x0 w Kp K) : Calls P 53 #[x0] w (EndsS Kp K) :=
  calls_of follows [0, 2] Tryz.func53 (by kernel_rfl) (by kernel_rfl) (by kernel_rfl) (F53_eq x0 w Kp K ▸ h)

/-- (*wisp/stack.pile[wisp/api.Cell]).room -/
def F85 (x0 x1 x2 : Value) (w : World) (Kp : KP) (K : K0) : Prop :=
  S P (vbin .neq 123 false true x0 (Value.pointer none)) w Kp fun v1 w =>
  GS v1 true P (vmove x1) w Kp fun v2 w =>
  GS v1 true P (vmove x2) w Kp fun v3 w =>
  GS v1 true P (vmove x0) w Kp fun v4 w =>
  GS v1 true P (vnil v4) w Kp fun v5 w =>
  GS v1 true P (vfield 136 v5 0) w Kp fun v6 w =>
  GS v1 true P (vload 23 v6) w Kp fun v7 w =>
  GS v1 true P (vblt .len #[23] 3 #[false] #[v7]) w Kp fun v8 w =>
  GS v1 true P (vbin .sub 3 false false v3 v8) w Kp fun v9 w =>
  GS v1 true P (vbin .leq 3 false false v2 v9) w Kp fun v10 w =>
  S P (vpick v1 v10 (Value.bool false)) w Kp fun v11 w =>
  K v11 w
theorem F85_eq (x0 x1 x2 : Value) (w : World) (Kp : KP) (K : K0) : F85 x0 x1 x2 w Kp K = wpE P [6] (bodyOf Tryz.f85) (postE P Tryz.f85.results.toList Kp K) (List.range 3 ++ [6]) (ε0 #[x0, x1, x2]) w := by kernel_rfl
theorem F85_calls {x0 x1 x2 : Value} {w : World} {Kp : KP} {K : K0} (h : F85 x0 x1 x2 w Kp K) : Calls P 85 #[x0, x1, x2] w (EndsS Kp K) :=
  calls_of follows [6] Tryz.func85 (by kernel_rfl) (by kernel_rfl) (by kernel_rfl) (F85_eq x0 x1 x2 w Kp K ▸ h)

/-- (*wisp/stack.pile[wisp/api.Cell]).put -/
def F58 (x0 x1 x2 : Value) (w : World) (Kp : KP) (K : K0) : Prop :=
  S P (vblt .len #[23] 3 #[false] #[x2]) w Kp fun v1 w =>
  S P (vbin .eql 3 false true v1 (Value.int IntKind.i64 0)) w Kp fun v2 w =>
  C v2 (K (Value.bool true) w)
  (S P (vblt .len #[23] 3 #[false] #[x2]) w Kp fun v3 w =>
  S P (vcall (Value.func (Fn.func 85) #[] #[]) #[x0, v3, x1]) w Kp fun v4 w =>
  S P (vun .not v4) w Kp fun v5 w =>
  C v5 (K (Value.bool false) w)
  (S P (vnil x0) w Kp fun v6 w =>
  S P (vfield 136 v6 0) w Kp fun v7 w =>
  S P (vload 23 v7) w Kp fun v8 w =>
  S P (vblt .append #[23, 23] 23 #[false, false] #[v8, x2]) w Kp fun v9 w =>
  S P (vnil x0) w Kp fun v10 w =>
  S P (vfield 136 v10 0) w Kp fun v11 w =>
  S P (vstore 23 v11 v9) w Kp fun v12 w =>
  K (Value.bool true) w))
theorem F58_eq (x0 x1 x2 : Value) (w : World) (Kp : KP) (K : K0) : F58 x0 x1 x2 w Kp K = wpE P [0, 1, 2, 6] (bodyOf Tryz.f58) (postE P Tryz.f58.results.toList Kp K) (List.range 3 ++ [0, 1, 2, 6]) (ε0 #[x0, x1, x2]) w := by kernel_rfl
theorem F58_calls {x0 x1 x2 : Value} {w : World} {Kp : KP} {K : K0} (h : F58 x0 x1 x2 w Kp K) : Calls P 58 #[x0, x1, x2] w (EndsS Kp K) :=
  calls_of follows [0, 1, 2, 6] Tryz.func58 (by kernel_rfl) (by kernel_rfl) (by kernel_rfl) (F58_eq x0 x1 x2 w Kp K ▸ h)

/-- (*wisp/stack.Return).Push -/
def F28 (x0 x1 : Value) (w : World) (Kp : KP) (K : K0) : Prop :=
  S P (vcall (Value.func (Fn.func 55) #[] #[]) #[x0]) w Kp fun v1 w =>
  S P (vcall (Value.func (Fn.func 58) #[] #[]) #[v1, (Value.int IntKind.i64 128), x1]) w Kp fun v2 w =>
  S P (vun .not v2) w Kp fun v3 w =>
  C v3 (K (Value.int IntKind.i64 4) w)
  (K (Value.int IntKind.i64 0) w)
theorem F28_eq (x0 x1 : Value) (w : World) (Kp : KP) (K : K0) : F28 x0 x1 w Kp K = wpE P [4] (bodyOf Tryz.f28) (postE P Tryz.f28.results.toList Kp K) (List.range 2 ++ [4]) (ε0 #[x0, x1]) w := by kernel_rfl
theorem F28_calls {x0 x1 : Value} {w : World} {Kp : KP} {K : K0} (h : F28 x0 x1 w Kp K) : Calls P 28 #[x0, x1] w (EndsS Kp K) :=
  calls_of follows [4] Tryz.func28 (by kernel_rfl) (by kernel_rfl) (by kernel_rfl) (F28_eq x0 x1 w Kp K ▸ h)

/-- (*wisp/stack.Return).inner -/
def F55 (x0 : Value) (w : World) (Kp : KP) (K : K0) : Prop :=
  S P (vbin .eql 33 false true x0 (Value.pointer none)) w Kp fun v1 w =>
  C v1 (K (Value.pointer none) w)
  (S P (vnil x0) w Kp fun v2 w =>
  S P (vfield 138 v2 0) w Kp fun v3 w =>
  K v3 w)
theorem F55_eq (x0 : Value) (w : World) (Kp : KP) (K : K0) : F55 x0 w Kp K = wpE P [0, 2] (bodyOf Tryz.f55) (postE P Tryz.f55.results.toList Kp K) (List.range 1 ++ [0, 2]) (ε0 #[x0]) w := by kernel_rfl
theorem F55_calls {x0 : Value} {w : World} {Kp : KP} {K : K0} (h : F55 x0 w Kp K) : Calls P 55 #[x0] w (EndsS Kp K) :=
  calls_of follows [0, 2] Tryz.func55 (by kernel_rfl) (by kernel_rfl) (by kernel_rfl) (F55_eq x0 w Kp K ▸ h)

/-- (*wisp/stack.pile[uint16]).size -/
def F74 (x0 : Value) (w : World) (Kp : KP) (K : K0) : Prop :=
  S P (vbin .eql 121 false true x0 (Value.pointer none)) w Kp fun v1 w =>
  C v1 (K (Value.int IntKind.i64 0) w)
  (S P (vnil x0) w Kp fun v2 w =>
  S P (vfield 132 v2 0) w Kp fun v3 w =>
  S P (vload 22 v3) w Kp fun v4 w =>
  S P (vblt .len #[22] 3 #[false] #[v4]) w Kp fun v5 w =>
  K v5 w)
theorem F74_eq (x0 : Value) (w : World) (Kp : KP) (K : K0) : F74 x0 w Kp K = wpE P [0, 2] (bodyOf Tryz.f74) (postE P Tryz.f74.results.toList Kp K) (List.range 1 ++ [0, 2]) (ε0 #[x0]) w := by kernel_rfl
theorem F74_calls {x0 : Value} {w : World} {Kp : KP} {K : K0} (h : F74 x0 w Kp K) : Calls P 74 #[x0] w (EndsS Kp K) :=
  calls_of follows [0, 2] Tryz.func74 (by kernel_rfl) (by kernel_rfl) (by kernel_rfl) (F74_eq x0 w Kp K ▸ h)

/-- (*wisp/stack.pile[uint16]).take -/
def F148 (x0 : Value) (w : World) (Kp : KP) (K : K0) : Prop :=
  S P (vnil x0) w Kp fun v1 w =>
  S P (vfield 132 v1 0) w Kp fun v2 w =>
  S P (vload 22 v2) w Kp fun v3 w =>
  S P (vblt .len #[22] 3 #[false] #[v3]) w Kp fun v4 w =>
  S P (vbin .sub 3 false true v4 (Value.int IntKind.i64 1)) w Kp fun v5 w =>
  S P (vnil x0) w Kp fun v6 w =>
  S P (vfield 132 v6 0) w Kp fun v7 w =>
  S P (vload 22 v7) w Kp fun v8 w =>
  S P (vixA 22 v8 v5) w Kp fun v9 w =>
  S P (vload 41 v9) w Kp fun v10 w =>
  S P (vnil x0) w Kp fun v11 w =>
  S P (vfield 132 v11 0) w Kp fun v12 w =>
  S P (vload 22 v12) w Kp fun v13 w =>
  S P (vslice 22 v13 none (some v5) none) w Kp fun v14 w =>
  S P (vnil x0) w Kp fun v15 w =>
  S P (vfield 132 v15 0) w Kp fun v16 w =>
  S P (vstore 22 v16 v14) w Kp fun v17 w =>
  K v10 w
theorem F148_eq (x0 : Value) (w : World) (Kp : KP) (K : K0) : F148 x0 w Kp K = wpE P [2] (bodyOf Tryz.f148) (postE P Tryz.f148.results.toList Kp K) (List.range 1 ++ [2]) (ε0 #[x0]) w := by kernel_rfl
theorem F148_calls {x0 : Value} {w : World} {Kp : KP} {K : K0} (h : F148 x0 w Kp K) : Calls P 148 #[x0] w (EndsS Kp K) :=
  calls_of follows [2] Tryz.func148 (by kernel_rfl) (by kernel_rfl) (by kernel_rfl) (F148_eq x0 w Kp K ▸ h)

/-- (*wisp/stack.pile[uint16]).all -/
def F54 (x0 : Value) (w : World) (Kp : KP) (K : K0) : Prop :=
  S P (vcall (Value.func (Fn.func 74) #[] #[]) #[x0]) w Kp fun v1 w =>
  S P (vbin .eql 3 false true v1 (Value.int IntKind.i64 0)) w Kp fun v2 w =>
  C v2 (K (Value.slice none 0 0) w)
  (S P (vnil x0) w Kp fun v3 w =>
  S P (vfield 132 v3 0) w Kp fun v4 w =>
  S P (vload 22 v4) w Kp fun v5 w =>
  S P (vblt .len #[22] 3 #[false] #[v5]) w Kp fun v6 w =>
  S P (vmkS 22 v6 v6) w Kp fun v7 w =>
  S P (vnil x0) w Kp fun v8 w =>
  S P (vfield 132 v8 0) w Kp fun v9 w =>
  S P (vload 22 v9) w Kp fun v10 w =>
  S P (vblt .copy #[22, 22] 3 #[false, false] #[v7, v10]) w Kp fun v11 w =>
  K v7 w)
theorem F54_eq (x0 : Value) (w : World) (Kp : KP) (K : K0) : F54 x0 w Kp K = wpE P [0, 2] (bodyOf Tryz.f54) (postE P Tryz.f54.results.toList Kp K) (List.range 1 ++ [0, 2]) (ε0 #[x0]) w := by kernel_rfl
theorem F54_calls {x0 : Value} {w : World} {Kp : KP} {K : K0} (h : F54 x0 w Kp K) : Calls P 54 #[x0] w (EndsS Kp K) :=
  calls_of follows [0, 2] Tryz.func54 (by kernel_rfl) (by kernel_rfl) (by kernel_rfl) (F54_eq x0 w Kp K ▸ h)

/-- (*wisp/stack.Data).Need -/
def F42 (x0 x1 x2 : Value) (w : World) (Kp : KP) (K : K0) : Prop :=
  S P (vblt .max #[3, 3] 3 #[false, true] #[x1, (Value.int IntKind.i64 0)]) w Kp fun v1 w =>
  S P (vblt .max #[3, 3] 3 #[false, true] #[x2, (Value.int IntKind.i64 0)]) w Kp fun v2 w =>
  S P (vcall (Value.func (Fn.func 53) #[] #[]) #[x0]) w Kp fun v3 w =>
  S P (vcall (Value.func (Fn.func 74) #[] #[]) #[v3]) w Kp fun v4 w =>
  S P (vbin .lss 3 false false v4 v1) w Kp fun v5 w =>
  C v5 (K (Value.int IntKind.i64 1) w)
  (S P (vbin .sub 3 false false v4 v1) w Kp fun v6 w =>
  S P (vbin .sub 3 true false (Value.int IntKind.i64 256) v6) w Kp fun v7 w =>
  S P (vbin .gtr 3 false false v2 v7) w Kp fun v8 w =>
  C v8 (K (Value.int IntKind.i64 2) w)
  (K (Value.int IntKind.i64 0) w))
theorem F42_eq (x0 x1 x2 : Value) (w : World) (Kp : KP) (K : K0) : F42 x0 x1 x2 w Kp K = wpE P [6] (bodyOf Tryz.f42) (postE P Tryz.f42.results.toList Kp K) (List.range 3 ++ [6]) (ε0 #[x0, x1, x2]) w := by kernel_rfl
theorem F42_calls {x0 x1 x2 : Value} {w : World} {Kp : KP} {K : K0} (h : F42 x0 x1 x2 w Kp K) : Calls P 42 #[x0, x1, x2] w (EndsS Kp K) :=
  calls_of follows [6] Tryz.func42 (by kernel_rfl) (by kernel_rfl) (by kernel_rfl) (F42_eq x0 x1 x2 w Kp K ▸ h)

/-- (*wisp/stack.Data).Pop -/
def F123 (x0 : Value) (w : World) (Kp : KP) (K : K0) : Prop :=
  S P (vcall (Value.func (Fn.func 53) #[] #[]) #[x0]) w Kp fun v1 w =>
  S P (vcall (Value.func (Fn.func 74) #[] #[]) #[v1]) w Kp fun v2 w =>
  S P (vbin .eql 3 false true v2 (Value.int IntKind.i64 0)) w Kp fun v3 w =>
  C v3 (K (Value.int IntKind.u16 0) w)
  (S P (vcall (Value.func (Fn.func 148) #[] #[]) #[v1]) w Kp fun v4 w =>
  K v4 w)
theorem F123_eq (x0 : Value) (w : World) (Kp : KP) (K : K0) : F123 x0 w Kp K = wpE P [2, 3] (bodyOf Tryz.f123) (postE P Tryz.f123.results.toList Kp K) (List.range 1 ++ [2, 3]) (ε0 #[x0]) w := by kernel_rfl
theorem F123_calls {x0 : Value} {w : World} {Kp : KP} {K : K0} (h : F123 x0 w Kp K) : Calls P 123 #[x0] w (EndsS Kp K) :=
  calls_of follows [2, 3] Tryz.func123 (by kernel_rfl) (by kernel_rfl) (by kernel_rfl) (F123_eq x0 w Kp K ▸ h)

/-- (*wisp/stack.Return).Len -/
def F44 (x0 : Value) (w : World) (Kp : KP) (K : K0) : Prop :=
  S P (vcall (Value.func (Fn.func 55) #[] #[]) #[x0]) w Kp fun v1 w =>
  S P (vcall (Value.func (Fn.func 76) #[] #[]) #[v1]) w Kp fun v2 w =>
  K v2 w
theorem F44_eq (x0 : Value) (w : World) (Kp : KP) (K : K0) : F44 x0 w Kp K = wpE P [2] (bodyOf Tryz.f44) (postE P Tryz.f44.results.toList Kp K) (List.range 1 ++ [2]) (ε0 #[x0]) w := by kernel_rfl
theorem F44_calls {x0 : Value} {w : World} {Kp : KP} {K : K0} (h : F44 x0 w Kp K) : Calls P 44 #[x0] w (EndsS Kp K) :=
  calls_of follows [2] Tryz.func44 (by kernel_rfl) (by kernel_rfl) (by kernel_rfl) (F44_eq x0 w Kp K ▸ h)

/-- (*wisp/stack.Data).Cells -/
def F17 (x0 : Value) (w : World) (Kp : KP) (K : K0) : Prop :=
  S P (vcall (Value.func (Fn.func 53) #[] #[]) #[x0]) w Kp fun v1 w =>
  S P (vcall (Value.func (Fn.func 54) #[] #[]) #[v1]) w Kp fun v2 w =>
  K v2 w
theorem F17_eq (x0 : Value) (w : World) (Kp : KP) (K : K0) : F17 x0 w Kp K = wpE P [2] (bodyOf Tryz.f17) (postE P Tryz.f17.results.toList Kp K) (List.range 1 ++ [2]) (ε0 #[x0]) w := by kernel_rfl
theorem F17_calls {x0 : Value} {w : World} {Kp : KP} {K : K0} (h : F17 x0 w Kp K) : Calls P 17 #[x0] w (EndsS Kp K) :=
  calls_of follows [2] Tryz.func17 (by kernel_rfl) (by kernel_rfl) (by kernel_rfl) (F17_eq x0 w Kp K ▸ h)

/-- (*wisp/stack.pile[wisp/api.Cell]).top -/
def F113 (x0 x1 : Value) (w : World) (Kp : KP) (K : K0) : Prop :=
  S P (vbin .lss 3 false true x1 (Value.int IntKind.i64 0)) w Kp fun v1 w =>
  GS v1 false P (vmove x1) w Kp fun v2 w =>
  GS v1 false P (vmove x0) w Kp fun v3 w =>
  GS v1 false P (vcall (Value.func (Fn.func 76) #[] #[]) #[v3]) w Kp fun v4 w =>
  GS v1 false P (vbin .geq 3 false false v2 v4) w Kp fun v5 w =>
  S P (vpick v1 (Value.bool true) v5) w Kp fun v6 w =>
  C v6 (K (Value.pointer none) w)
  (∃ H7 : World → Prop, H7 (drewW w) ∧
  Fl P H7 (vnil x0) fun v8 =>
  Fl P H7 (vfield 136 v8 0) fun v9 =>
  Fl P H7 (vload 23 v9) fun v10 =>
  Fl P H7 (vnil x0) fun v11 =>
  Fl P H7 (vfield 136 v11 0) fun v12 =>
  Fl P H7 (vload 23 v12) fun v13 =>
  Fl P H7 (vblt .len #[23] 3 #[false] #[v13]) fun v14 =>
  Fl P H7 (vbin .sub 3 false true v14 (Value.int IntKind.i64 1)) fun v15 =>
  Fl P H7 (vbin .sub 3 false false v15 x1) fun v16 =>
  Fl P H7 (vixA 23 v10 v16) fun v17 =>
  K v17 (drewW w))
theorem F113_eq (x0 x1 : Value) (w : World) (Kp : KP) (K : K0) : F113 x0 x1 w Kp K = wpE P [0, 1, 4] (bodyOf Tryz.f113) (postE P Tryz.f113.results.toList Kp K) (List.range 2 ++ [0, 1, 4]) (ε0 #[x0, x1]) w := by kernel_rfl
theorem F113_calls {x0 x1 : Value} {w : World} {Kp : KP} {K : K0} (h : F113 x0 x1 w Kp K) : Calls P 113 #[x0, x1] w (EndsS Kp K) :=
  calls_of follows [0, 1, 4] Tryz.func113 (by kernel_rfl) (by kernel_rfl) (by kernel_rfl) (F113_eq x0 x1 w Kp K ▸ h)

/-- (*wisp/stack.pile[wisp/api.Cell]).take -/
def F167 (x0 : Value) (w : World) (Kp : KP) (K : K0) : Prop :=
  S P (valloc 75) w Kp fun v1 w =>
  S P (vnil x0) w Kp fun v2 w =>
  S P (vfield 136 v2 0) w Kp fun v3 w =>
  S P (vload 23 v3) w Kp fun v4 w =>
  S P (vblt .len #[23] 3 #[false] #[v4]) w Kp fun v5 w =>
  S P (vbin .sub 3 false true v5 (Value.int IntKind.i64 1)) w Kp fun v6 w =>
  S P (vnil x0) w Kp fun v7 w =>
  S P (vfield 136 v7 0) w Kp fun v8 w =>
  S P (vload 23 v8) w Kp fun v9 w =>
  S P (vixA 23 v9 v6) w Kp fun v10 w =>
  S P (vload 75 v10) w Kp fun v11 w =>
  S P (valloc 75) w Kp fun v12 w =>
  S P (vstore 75 v12 v11) w Kp fun v13 w =>
  S P (vnil x0) w Kp fun v14 w =>
  S P (vfield 136 v14 0) w Kp fun v15 w =>
  S P (vload 23 v15) w Kp fun v16 w =>
  S P (vslice 23 v16 none (some v6) none) w Kp fun v17 w =>
  S P (vnil x0) w Kp fun v18 w =>
  S P (vfield 136 v18 0) w Kp fun v19 w =>
  S P (vstore 23 v19 v17) w Kp fun v20 w =>
  S P (vload 75 v12) w Kp fun v21 w =>
  S P (vstore 75 v1 v21) w Kp fun v22 w =>
  RC P 75 v1 w fun r23 => K r23 w
theorem F167_eq (x0 : Value) (w : World) (Kp : KP) (K : K0) : F167 x0 w Kp K = wpE P [2] (bodyOf Tryz.f167) (postE P Tryz.f167.results.toList Kp K) (List.range 1 ++ [2]) (ε0 #[x0]) w := by kernel_rfl
theorem F167_calls {x0 : Value} {w : World} {Kp : KP} {K : K0} (h : F167 x0 w Kp K) : Calls P 167 #[x0] w (EndsS Kp K) :=
  calls_of follows [2] Tryz.func167 (by kernel_rfl) (by kernel_rfl) (by kernel_rfl) (F167_eq x0 w Kp K ▸ h)

/-- (*wisp/stack.Return).At -/
def F75 (x0 x1 x2 : Value) (w : World) (Kp : KP) (K : K0) : Prop :=
  S P (vcall (Value.func (Fn.func 55) #[] #[]) #[x0]) w Kp fun v1 w =>
  S P (vcall (Value.func (Fn.func 113) #[] #[]) #[v1, x1]) w Kp fun v2 w =>
  S P (vbin .eql 178 false true v2 (Value.pointer none)) w Kp fun v3 w =>
  C v3 (K (Value.tuple #[(Value.int IntKind.u16 0), (Value.int IntKind.i64 3)]) w)
  (S P (vnil v2) w Kp fun v4 w =>
  S P (vfield 75 v4 0) w Kp fun v5 w =>
  S P (vload 3 v5) w Kp fun v6 w =>
  S P (vbin .neq 3 false false v6 x2) w Kp fun v7 w =>
  C v7 (K (Value.tuple #[(Value.int IntKind.u16 0), (Value.int IntKind.i64 5)]) w)
  (S P (vnil v2) w Kp fun v8 w =>
  S P (vfield 75 v8 1) w Kp fun v9 w =>
  S P (vload 41 v9) w Kp fun v10 w =>
  K (Value.tuple #[v10, (Value.int IntKind.i64 0)]) w))
theorem F75_eq (x0 x1 x2 : Value) (w : World) (Kp : KP) (K : K0) : F75 x0 x1 x2 w Kp K = wpE P [6, 7, 8] (bodyOf Tryz.f75) (postE P Tryz.f75.results.toList Kp K) (List.range 3 ++ [6, 7, 8]) (ε0 #[x0, x1, x2]) w := by kernel_rfl
theorem F75_calls {x0 x1 x2 : Value} {w : World} {Kp : KP} {K : K0} (h : F75 x0 x1 x2 w Kp K) : Calls P 75 #[x0, x1, x2] w (EndsS Kp K) :=
  calls_of follows [6, 7, 8] Tryz.func75 (by kernel_rfl) (by kernel_rfl) (by kernel_rfl) (F75_eq x0 x1 x2 w Kp K ▸ h)

/-- (*wisp/stack.Return).Pop -/
def F150 (x0 x1 : Value) (w : World) (Kp : KP) (K : K0) : Prop :=
  S P (vcall (Value.func (Fn.func 75) #[] #[]) #[x0, (Value.int IntKind.i64 0), x1]) w Kp fun v1 w =>
  S P (vext v1 0) w Kp fun v2 w =>
  S P (vext v1 1) w Kp fun v3 w =>
  J (fun ε4 w => K (Value.tuple #[(ε4 6), (ε4 7)]) w) fun k5 =>
  S P (vbin .eql 30 false true v3 (Value.int IntKind.i64 0)) w Kp fun v6 w =>
  C v6 (S P (vnil x0) w Kp fun v7 w =>
  S P (vfield 138 v7 0) w Kp fun v8 w =>
  S P (vcall (Value.func (Fn.func 167) #[] #[]) #[v8]) w Kp fun v9 w =>
  k5 (upd 4 (Value.int IntKind.u16 0) (upd 5 (Value.int IntKind.i64 0) (upd 6 v2 (upd 7 v3 E0)))) w)
  (k5 (upd 4 (Value.int IntKind.u16 0) (upd 5 (Value.int IntKind.i64 0) (upd 6 v2 (upd 7 v3 E0)))) w)
theorem F150_eq (x0 x1 : Value) (w : World) (Kp : KP) (K : K0) : F150 x0 x1 w Kp K = wpE P [4, 5, 6, 7] (bodyOf Tryz.f150) (postE P Tryz.f150.results.toList Kp K) (List.range 2 ++ [4, 5, 6, 7]) (ε0 #[x0, x1]) w := by kernel_rfl
theorem F150_calls {x0 x1 : Value} {w : World} {Kp : KP} {K : K0} (h : F150 x0 x1 w Kp K) : Calls P 150 #[x0, x1] w (EndsS Kp K) :=
  calls_of follows [4, 5, 6, 7] Tryz.func150 (by kernel_rfl) (by kernel_rfl) (by kernel_rfl) (F150_eq x0 x1 w Kp K ▸ h)

/-- (*wisp/stack.Return).Cells -/
def F18 (x0 : Value) (w : World) (Kp : KP) (K : K0) : Prop :=
  S P (vcall (Value.func (Fn.func 55) #[] #[]) #[x0]) w Kp fun v1 w =>
  S P (vcall (Value.func (Fn.func 56) #[] #[]) #[v1]) w Kp fun v2 w =>
  K v2 w
theorem F18_eq (x0 : Value) (w : World) (Kp : KP) (K : K0) : F18 x0 w Kp K = wpE P [2] (bodyOf Tryz.f18) (postE P Tryz.f18.results.toList Kp K) (List.range 1 ++ [2]) (ε0 #[x0]) w := by kernel_rfl
theorem F18_calls {x0 : Value} {w : World} {Kp : KP} {K : K0} (h : F18 x0 w Kp K) : Calls P 18 #[x0] w (EndsS Kp K) :=
  calls_of follows [2] Tryz.func18 (by kernel_rfl) (by kernel_rfl) (by kernel_rfl) (F18_eq x0 w Kp K ▸ h)

/-- wisp/stack.Stacks -/
def F36 (x0 x1 : Value) (w : World) (Kp : KP) (K : K0) : Prop :=
  S P (vbuild 134 #[]) w Kp fun v1 w =>
  S P (vbox 134 v1) w Kp fun v2 w =>
  S P (vbuild 138 #[]) w Kp fun v3 w =>
  S P (vbox 138 v3) w Kp fun v4 w =>
  S P (vcall (Value.func (Fn.func 26) #[] #[]) #[v2, x0]) w Kp fun v5 w =>
  S P (vbin .neq 30 false true v5 (Value.int IntKind.i64 0)) w Kp fun v6 w =>
  GS v6 false P (vmove v4) w Kp fun v7 w =>
  GS v6 false P (vmove x1) w Kp fun v8 w =>
  GS v6 false P (vcall (Value.func (Fn.func 28) #[] #[]) #[v7, v8]) w Kp fun v9 w =>
  GS v6 false P (vbin .neq 30 false true v9 (Value.int IntKind.i64 0)) w Kp fun v10 w =>
  S P (vpick v6 (Value.bool true) v10) w Kp fun v11 w =>
  C v11 (K (Value.tuple #[(Value.pointer none), (Value.pointer none), (Value.int IntKind.i64 2)]) w)
  (S P (vblt .len #[23] 3 #[false] #[x1]) w Kp fun v12 w =>
  ∃ I μ, LoopE I μ (fun K14 ε13 w =>
  S P (vbin .lss 3 false false (ε13 27) (ε13 26)) w Kp fun v15 w =>
  C v15 (S P (vixA 23 (ε13 25) (ε13 27)) w Kp fun v16 w =>
  S P (vload 75 v16) w Kp fun v17 w =>
  S P (valloc 75) w Kp fun v18 w =>
  S P (vstore 75 v18 v17) w Kp fun v19 w =>
  S P (vfield 75 v18 0) w Kp fun v20 w =>
  S P (vload 3 v20) w Kp fun v21 w =>
  S P (vbin .lss 3 false true v21 (Value.int IntKind.i64 1)) w Kp fun v22 w =>
  GS v22 false P (vfield 75 v18 0) w Kp fun v23 w =>
  GS v22 false P (vload 3 v23) w Kp fun v24 w =>
  GS v22 false P (vbin .gtr 3 false true v24 (Value.int IntKind.i64 4)) w Kp fun v25 w =>
  S P (vpick v22 (Value.bool true) v25) w Kp fun v26 w =>
  C v26 (K (Value.tuple #[(Value.pointer none), (Value.pointer none), (Value.int IntKind.i64 2)]) w)
  (S P (vbin .add 3 false true (ε13 27) (Value.int IntKind.i64 1)) w Kp fun v27 w =>
  K14 (upd 1 (ε13 1) (upd 4 (ε13 4) (upd 5 (ε13 5) (upd 6 (ε13 6) (upd 7 (ε13 7) (upd 8 (ε13 8) (upd 25 (ε13 25) (upd 26 (ε13 26) (upd 27 v27 E0))))))))) w))
  (K (Value.tuple #[(ε13 7), (ε13 8), (Value.int IntKind.i64 0)]) w)) (upd 1 x1 (upd 4 (Value.pointer none) (upd 5 (Value.pointer none) (upd 6 (Value.int IntKind.i64 0) (upd 7 v2 (upd 8 v4 (upd 25 x1 (upd 26 v12 (upd 27 (Value.int IntKind.i64 0) E0))))))))) w)
theorem F36_eq (x0 x1 : Value) (w : World) (Kp : KP) (K : K0) : F36 x0 x1 w Kp K = wpE P [1, 4, 5, 6, 7, 8, 25, 26, 27] (bodyOf Tryz.f36) (postE P Tryz.f36.results.toList Kp K) (List.range 2 ++ [1, 4, 5, 6, 7, 8, 25, 26, 27]) (ε0 #[x0, x1]) w := by kernel_rfl
theorem F36_calls {x0 x1 : Value} {w : World} {Kp : KP} {K : K0} (h : F36 x0 x1 w Kp K) : Calls P 36 #[x0, x1] w (EndsS Kp K) :=
  calls_of follows [1, 4, 5, 6, 7, 8, 25, 26, 27] Tryz.func36 (by kernel_rfl) (by kernel_rfl) (by kernel_rfl) (F36_eq x0 x1 w Kp K ▸ h)

/-- (*wisp/prim.desk).taken -/
def F128 (x0 x1 : Value) (w : World) (Kp : KP) (K : K0) : Prop :=
  S P (vmkS 22 x1 x1) w Kp fun v1 w =>
  S P (vblt .len #[22] 3 #[false] #[v1]) w Kp fun v2 w =>
  ∃ I μ, LoopE I μ (fun K4 ε3 w =>
  S P (vbin .lss 3 false false (ε3 11) (ε3 10)) w Kp fun v5 w =>
  C v5 (S P (vbin .sub 3 false true (ε3 1) (Value.int IntKind.i64 1)) w Kp fun v6 w =>
  S P (vbin .sub 3 false false v6 (ε3 11)) w Kp fun v7 w =>
  S P (vnil (ε3 0)) w Kp fun v8 w =>
  S P (vfield 99 v8 0) w Kp fun v9 w =>
  S P (vload 32 v9) w Kp fun v10 w =>
  S P (vcall (Value.func (Fn.func 123) #[] #[]) #[v10]) w Kp fun v11 w =>
  S P (vixA 22 (ε3 5) v7) w Kp fun v12 w =>
  S P (vstore 41 v12 v11) w Kp fun v13 w =>
  S P (vbin .add 3 false true (ε3 11) (Value.int IntKind.i64 1)) w Kp fun v14 w =>
  K4 (upd 0 (ε3 0) (upd 1 (ε3 1) (upd 4 (ε3 4) (upd 5 (ε3 5) (upd 10 (ε3 10) (upd 11 v14 E0)))))) w)
  (K (ε3 5) w)) (upd 0 x0 (upd 1 x1 (upd 4 (Value.slice none 0 0) (upd 5 v1 (upd 10 v2 (upd 11 (Value.int IntKind.i64 0) E0)))))) w
theorem F128_eq (x0 x1 : Value) (w : World) (Kp : KP) (K : K0) : F128 x0 x1 w Kp K = wpE P [0, 1, 4, 5, 10, 11] (bodyOf Tryz.f128) (postE P Tryz.f128.results.toList Kp K) (List.range 2 ++ [0, 1, 4, 5, 10, 11]) (ε0 #[x0, x1]) w := by kernel_rfl
theorem F128_calls {x0 x1 : Value} {w : World} {Kp : KP} {K : K0} (h : F128 x0 x1 w Kp K) : Calls P 128 #[x0, x1] w (EndsS Kp K) :=
  calls_of follows [0, 1, 4, 5, 10, 11] Tryz.func128 (by kernel_rfl) (by kernel_rfl) (by kernel_rfl) (F128_eq x0 x1 w Kp K ▸ h)

/-- (*wisp/stack.pile[wisp/api.Cell]).size -/
def F76 (x0 : Value) (w : World) (Kp : KP) (K : K0) : Prop :=
  S P (vbin .eql 123 false true x0 (Value.pointer none)) w Kp fun v1 w =>
  C v1 (K (Value.int IntKind.i64 0) w)
  (S P (vnil x0) w Kp fun v2 w =>
  S P (vfield 136 v2 0) w Kp fun v3 w =>
  S P (vload 23 v3) w Kp fun v4 w =>
  S P (vblt .len #[23] 3 #[false] #[v4]) w Kp fun v5 w =>
  K v5 w)
theorem F76_eq (x0 : Value) (w : World) (Kp : KP) (K : K0) : F76 x0 w Kp K = wpE P [0, 2] (bodyOf Tryz.f76) (postE P Tryz.f76.results.toList Kp K) (List.range 1 ++ [0, 2]) (ε0 #[x0]) w := by kernel_rfl
theorem F76_calls {x0 : Value} {w : World} {Kp : KP} {K : K0} (h : F76 x0 w Kp K) : Calls P 76 #[x0] w (EndsS Kp K) :=
  calls_of follows [0, 2] Tryz.func76 (by kernel_rfl) (by kernel_rfl) (by kernel_rfl) (F76_eq x0 w Kp K ▸ h)

/-- (*wisp/stack.pile[wisp/api.Cell]).all -/
def F56 (x0 : Value) (w : World) (Kp : KP) (K : K0) : Prop :=
  S P (vcall (Value.func (Fn.func 76) #[] #[]) #[x0]) w Kp fun v1 w =>
  S P (vbin .eql 3 false true v1 (Value.int IntKind.i64 0)) w Kp fun v2 w =>
  C v2 (K (Value.slice none 0 0) w)
  (S P (vnil x0) w Kp fun v3 w =>
  S P (vfield 136 v3 0) w Kp fun v4 w =>
  S P (vload 23 v4) w Kp fun v5 w =>
  S P (vblt .len #[23] 3 #[false] #[v5]) w Kp fun v6 w =>
  S P (vmkS 23 v6 v6) w Kp fun v7 w =>
  S P (vnil x0) w Kp fun v8 w =>
  S P (vfield 136 v8 0) w Kp fun v9 w =>
  S P (vload 23 v9) w Kp fun v10 w =>
  S P (vblt .copy #[23, 23] 3 #[false, false] #[v7, v10]) w Kp fun v11 w =>
  K v7 w)
theorem F56_eq (x0 : Value) (w : World) (Kp : KP) (K : K0) : F56 x0 w Kp K = wpE P [0, 2] (bodyOf Tryz.f56) (postE P Tryz.f56.results.toList Kp K) (List.range 1 ++ [0, 2]) (ε0 #[x0]) w := by kernel_rfl
theorem F56_calls {x0 : Value} {w : World} {Kp : KP} {K : K0} (h : F56 x0 w Kp K) : Calls P 56 #[x0] w (EndsS Kp K) :=
  calls_of follows [0, 2] Tryz.func56 (by kernel_rfl) (by kernel_rfl) (by kernel_rfl) (F56_eq x0 w Kp K ▸ h)

/-- (*wisp/mem.Memory).Load -/
def F105 (x0 x1 : Value) (w : World) (Kp : KP) (K : K0) : Prop :=
  S P (vbin .eql 34 false true x0 (Value.pointer none)) w Kp fun v1 w =>
  C v1 (K (Value.int IntKind.u8 0) w)
  (S P (vbin .lss 41 false true x1 (Value.int IntKind.u16 16384)) w Kp fun v2 w =>
  C v2 (K (Value.int IntKind.u8 0) w)
  (S P (vbin .lss 41 false true x1 (Value.int IntKind.u16 32768)) w Kp fun v3 w =>
  C v3 (∃ H4 : World → Prop, H4 (drewW w) ∧
  Fl P H4 (vnil x0) fun v5 =>
  Fl P H4 (vfield 115 v5 0) fun v6 =>
  Fl P H4 (vload 110 v6) fun v7 =>
  Fl P H4 (vnil x0) fun v8 =>
  Fl P H4 (vfield 115 v8 3) fun v9 =>
  Fl P H4 (vload 5 v9) fun v10 =>
  Fl P H4 (vlook 110 v7 v10 true) fun v11 =>
  Fl P H4 (vext v11 0) fun v12 =>
  Fl P H4 (vext v11 1) fun v13 =>
  C v13 (S P (vbin .sub 41 false true x1 (Value.int IntKind.u16 16384)) (drewW w) Kp fun v14 w =>
  S P (vnil v12) w Kp fun v15 w =>
  S P (vixA 139 v15 v14) w Kp fun v16 w =>
  S P (vload 5 v16) w Kp fun v17 w =>
  K v17 w)
  (K (Value.int IntKind.u8 0) (drewW w)))
  (S P (vbin .lss 41 false true x1 (Value.int IntKind.u16 49152)) w Kp fun v18 w =>
  C v18 (S P (vbin .sub 41 false true x1 (Value.int IntKind.u16 32768)) w Kp fun v19 w =>
  S P (vnil x0) w Kp fun v20 w =>
  S P (vfield 115 v20 1) w Kp fun v21 w =>
  S P (vixA 111 v21 v19) w Kp fun v22 w =>
  S P (vload 5 v22) w Kp fun v23 w =>
  K v23 w)
  (S P (vconv 41 3 x1) w Kp fun v24 w =>
  S P (vbin .lss 3 false true v24 (Value.int IntKind.i64 52224)) w Kp fun v25 w =>
  C v25 (S P (vbin .sub 41 false true x1 (Value.int IntKind.u16 49152)) w Kp fun v26 w =>
  S P (vnil x0) w Kp fun v27 w =>
  S P (vfield 115 v27 2) w Kp fun v28 w =>
  S P (vixA 113 v28 v26) w Kp fun v29 w =>
  S P (vload 5 v29) w Kp fun v30 w =>
  K v30 w)
  (S P (vbin .eql 41 false true x1 (Value.int IntKind.u16 65280)) w Kp fun v31 w =>
  C v31 (S P (vnil x0) w Kp fun v32 w =>
  S P (vfield 115 v32 3) w Kp fun v33 w =>
  S P (vload 5 v33) w Kp fun v34 w =>
  K v34 w)
  (S P (vbin .eql 41 false true x1 (Value.int IntKind.u16 65282)) w Kp fun v35 w =>
  C v35 (S P (vnil x0) w Kp fun v36 w =>
  S P (vfield 115 v36 4) w Kp fun v37 w =>
  S P (vload 5 v37) w Kp fun v38 w =>
  K v38 w)
  (S P (vbin .eql 41 false true x1 (Value.int IntKind.u16 65284)) w Kp fun v39 w =>
  C v39 (S P (vnil x0) w Kp fun v40 w =>
  S P (vfield 115 v40 6) w Kp fun v41 w =>
  S P (vload 41 v41) w Kp fun v42 w =>
  S P (vconv 41 5 v42) w Kp fun v43 w =>
  K v43 w)
  (S P (vbin .eql 41 false true x1 (Value.int IntKind.u16 65285)) w Kp fun v44 w =>
  C v44 (S P (vnil x0) w Kp fun v45 w =>
  S P (vfield 115 v45 6) w Kp fun v46 w =>
  S P (vload 41 v46) w Kp fun v47 w =>
  S P (vbin .shr 41 false true v47 (Value.int IntKind.u64 8)) w Kp fun v48 w =>
  S P (vconv 41 5 v48) w Kp fun v49 w =>
  K v49 w)
  (S P (vbin .eql 41 false true x1 (Value.int IntKind.u16 65286)) w Kp fun v50 w =>
  C v50 (S P (vnil x0) w Kp fun v51 w =>
  S P (vfield 115 v51 5) w Kp fun v52 w =>
  S P (vload 5 v52) w Kp fun v53 w =>
  K v53 w)
  (S P (vbin .eql 41 false true x1 (Value.int IntKind.u16 65288)) w Kp fun v54 w =>
  C v54 (S P (vnil x0) w Kp fun v55 w =>
  S P (vfield 115 v55 7) w Kp fun v56 w =>
  S P (vload 41 v56) w Kp fun v57 w =>
  S P (vconv 41 5 v57) w Kp fun v58 w =>
  K v58 w)
  (S P (vbin .eql 41 false true x1 (Value.int IntKind.u16 65289)) w Kp fun v59 w =>
  C v59 (S P (vnil x0) w Kp fun v60 w =>
  S P (vfield 115 v60 7) w Kp fun v61 w =>
  S P (vload 41 v61) w Kp fun v62 w =>
  S P (vbin .shr 41 false true v62 (Value.int IntKind.u64 8)) w Kp fun v63 w =>
  S P (vconv 41 5 v63) w Kp fun v64 w =>
  K v64 w)
  (K (Value.int IntKind.u8 0) w))))))))))))
theorem F105_eq (x0 x1 : Value) (w : World) (Kp : KP) (K : K0) : F105 x0 x1 w Kp K = wpE P [0, 1, 4] (bodyOf Tryz.f105) (postE P Tryz.f105.results.toList Kp K) (List.range 2 ++ [0, 1, 4]) (ε0 #[x0, x1]) w := by kernel_rfl
theorem F105_calls {x0 x1 : Value} {w : World} {Kp : KP} {K : K0} (h : F105 x0 x1 w Kp K) : Calls P 105 #[x0, x1] w (EndsS Kp K) :=
  calls_of follows [0, 1, 4] Tryz.func105 (by kernel_rfl) (by kernel_rfl) (by kernel_rfl) (F105_eq x0 x1 w Kp K ▸ h)

/-- (*wisp/mem.Memory).Store -/
def F16 (x0 x1 x2 : Value) (w : World) (Kp : KP) (K : K0) : Prop :=
  S P (vbin .eql 34 false true x0 (Value.pointer none)) w Kp fun v1 w =>
  C v1 (K (Value.tuple #[]) w)
  (S P (vbin .lss 41 false true x1 (Value.int IntKind.u16 16384)) w Kp fun v2 w =>
  C v2 (K (Value.tuple #[]) w)
  (S P (vbin .lss 41 false true x1 (Value.int IntKind.u16 32768)) w Kp fun v3 w =>
  C v3 (J (fun ε4 w => K (Value.tuple #[]) w) fun k5 =>
  ∃ H6 : World → Prop, H6 (drewW w) ∧
  Fl P H6 (vnil x0) fun v7 =>
  Fl P H6 (vfield 115 v7 0) fun v8 =>
  Fl P H6 (vload 110 v8) fun v9 =>
  Fl P H6 (vnil x0) fun v10 =>
  Fl P H6 (vfield 115 v10 3) fun v11 =>
  Fl P H6 (vload 5 v11) fun v12 =>
  Fl P H6 (vlook 110 v9 v12 true) fun v13 =>
  Fl P H6 (vext v13 0) fun v14 =>
  Fl P H6 (vext v13 1) fun v15 =>
  C v15 (S P (vbin .sub 41 false true x1 (Value.int IntKind.u16 16384)) (drewW w) Kp fun v16 w =>
  S P (vnil v14) w Kp fun v17 w =>
  S P (vixA 139 v17 v16) w Kp fun v18 w =>
  S P (vstore 5 v18 x2) w Kp fun v19 w =>
  k5 (upd 0 x0 (upd 1 x1 (upd 2 x2 E0))) w)
  (k5 (upd 0 x0 (upd 1 x1 (upd 2 x2 E0))) (drewW w)))
  (S P (vbin .lss 41 false true x1 (Value.int IntKind.u16 49152)) w Kp fun v20 w =>
  C v20 (S P (vbin .sub 41 false true x1 (Value.int IntKind.u16 32768)) w Kp fun v21 w =>
  S P (vnil x0) w Kp fun v22 w =>
  S P (vfield 115 v22 1) w Kp fun v23 w =>
  S P (vixA 111 v23 v21) w Kp fun v24 w =>
  S P (vstore 5 v24 x2) w Kp fun v25 w =>
  K (Value.tuple #[]) w)
  (S P (vconv 41 3 x1) w Kp fun v26 w =>
  S P (vbin .lss 3 false true v26 (Value.int IntKind.i64 52224)) w Kp fun v27 w =>
  C v27 (S P (vbin .sub 41 false true x1 (Value.int IntKind.u16 49152)) w Kp fun v28 w =>
  S P (vnil x0) w Kp fun v29 w =>
  S P (vfield 115 v29 2) w Kp fun v30 w =>
  S P (vixA 113 v30 v28) w Kp fun v31 w =>
  S P (vstore 5 v31 x2) w Kp fun v32 w =>
  K (Value.tuple #[]) w)
  (S P (vbin .eql 41 false true x1 (Value.int IntKind.u16 65280)) w Kp fun v33 w =>
  C v33 (S P (vbin .rem 5 false true x2 (Value.int IntKind.u8 16)) w Kp fun v34 w =>
  S P (vnil x0) w Kp fun v35 w =>
  S P (vfield 115 v35 3) w Kp fun v36 w =>
  S P (vstore 5 v36 v34) w Kp fun v37 w =>
  K (Value.tuple #[]) w)
  (S P (vbin .eql 41 false true x1 (Value.int IntKind.u16 65284)) w Kp fun v38 w =>
  C v38 (S P (vnil x0) w Kp fun v39 w =>
  S P (vfield 115 v39 6) w Kp fun v40 w =>
  S P (vload 41 v40) w Kp fun v41 w =>
  S P (vbin .and 41 false true v41 (Value.int IntKind.u16 65280)) w Kp fun v42 w =>
  S P (vconv 5 41 x2) w Kp fun v43 w =>
  S P (vbin .or 41 false false v42 v43) w Kp fun v44 w =>
  S P (vnil x0) w Kp fun v45 w =>
  S P (vfield 115 v45 6) w Kp fun v46 w =>
  S P (vstore 41 v46 v44) w Kp fun v47 w =>
  K (Value.tuple #[]) w)
  (S P (vbin .eql 41 false true x1 (Value.int IntKind.u16 65285)) w Kp fun v48 w =>
  C v48 (S P (vnil x0) w Kp fun v49 w =>
  S P (vfield 115 v49 6) w Kp fun v50 w =>
  S P (vload 41 v50) w Kp fun v51 w =>
  S P (vbin .and 41 false true v51 (Value.int IntKind.u16 255)) w Kp fun v52 w =>
  S P (vconv 5 41 x2) w Kp fun v53 w =>
  S P (vbin .shl 41 false true v53 (Value.int IntKind.u64 8)) w Kp fun v54 w =>
  S P (vbin .or 41 false false v52 v54) w Kp fun v55 w =>
  S P (vnil x0) w Kp fun v56 w =>
  S P (vfield 115 v56 6) w Kp fun v57 w =>
  S P (vstore 41 v57 v55) w Kp fun v58 w =>
  K (Value.tuple #[]) w)
  (S P (vbin .eql 41 false true x1 (Value.int IntKind.u16 65286)) w Kp fun v59 w =>
  C v59 (S P (vnil x0) w Kp fun v60 w =>
  S P (vfield 115 v60 5) w Kp fun v61 w =>
  S P (vstore 5 v61 x2) w Kp fun v62 w =>
  ∃ H63 : World → Prop, H63 (drewW w) ∧
  Fl P H63 (vnil x0) fun v64 =>
  Fl P H63 (vfield 115 v64 9) fun v65 =>
  Fl P H63 (vload 67 v65) fun v66 =>
  Fl P H63 (vnil x0) fun v67 =>
  Fl P H63 (vfield 115 v67 8) fun v68 =>
  Fl P H63 (vload 3 v68) fun v69 =>
  Fl P H63 (vnil x0) fun v70 =>
  Fl P H63 (vfield 115 v70 6) fun v71 =>
  Fl P H63 (vload 41 v71) fun v72 =>
  Fl P H63 (vbuild 120 #[(0, v69), (1, v72), (2, x2)]) fun v73 =>
  S P (vbuildS 67 1 #[(0, v73)]) (drewW w) Kp fun v74 w =>
  H63 w ∧ S P (vblt .append #[67, 67] 67 #[false, false] #[v66, v74]) w Kp fun v75 w =>
  H63 w ∧ Fl P H63 (vnil x0) fun v76 =>
  Fl P H63 (vfield 115 v76 9) fun v77 =>
  S P (vstore 67 v77 v75) w Kp fun v78 w =>
  K (Value.tuple #[]) w)
  (K (Value.tuple #[]) w)))))))))
theorem F16_eq (x0 x1 x2 : Value) (w : World) (Kp : KP) (K : K0) : F16 x0 x1 x2 w Kp K = wpE P [0, 1, 2] (bodyOf Tryz.f16) (postE P Tryz.f16.results.toList Kp K) (List.range 3 ++ [0, 1, 2]) (ε0 #[x0, x1, x2]) w := by kernel_rfl
theorem F16_calls {x0 x1 x2 : Value} {w : World} {Kp : KP} {K : K0} (h : F16 x0 x1 x2 w Kp K) : Calls P 16 #[x0, x1, x2] w (EndsS Kp K) :=
  calls_of follows [0, 1, 2] Tryz.func16 (by kernel_rfl) (by kernel_rfl) (by kernel_rfl) (F16_eq x0 x1 x2 w Kp K ▸ h)

/-- (*wisp/mem.Memory).Cell -/
def F71 (x0 x1 : Value) (w : World) (Kp : KP) (K : K0) : Prop :=
  S P (vcall (Value.func (Fn.func 105) #[] #[]) #[x0, x1]) w Kp fun v1 w =>
  S P (vconv 5 41 v1) w Kp fun v2 w =>
  S P (vbin .add 41 false true x1 (Value.int IntKind.u16 1)) w Kp fun v3 w =>
  S P (vcall (Value.func (Fn.func 105) #[] #[]) #[x0, v3]) w Kp fun v4 w =>
  S P (vconv 5 41 v4) w Kp fun v5 w =>
  S P (vbin .shl 41 false true v5 (Value.int IntKind.u64 8)) w Kp fun v6 w =>
  S P (vbin .or 41 false false v2 v6) w Kp fun v7 w =>
  K v7 w
theorem F71_eq (x0 x1 : Value) (w : World) (Kp : KP) (K : K0) : F71 x0 x1 w Kp K = wpE P [4] (bodyOf Tryz.f71) (postE P Tryz.f71.results.toList Kp K) (List.range 2 ++ [4]) (ε0 #[x0, x1]) w := by kernel_rfl
theorem F71_calls {x0 x1 : Value} {w : World} {Kp : KP} {K : K0} (h : F71 x0 x1 w Kp K) : Calls P 71 #[x0, x1] w (EndsS Kp K) :=
  calls_of follows [4] Tryz.func71 (by kernel_rfl) (by kernel_rfl) (by kernel_rfl) (F71_eq x0 x1 w Kp K ▸ h)

/-- (*wisp/mem.Memory).SetCell -/
def F149 (x0 x1 x2 : Value) (w : World) (Kp : KP) (K : K0) : Prop :=
  S P (vconv 41 5 x2) w Kp fun v1 w =>
  S P (vcall (Value.func (Fn.func 16) #[] #[]) #[x0, x1, v1]) w Kp fun v2 w =>
  S P (vbin .add 41 false true x1 (Value.int IntKind.u16 1)) w Kp fun v3 w =>
  S P (vbin .shr 41 false true x2 (Value.int IntKind.u64 8)) w Kp fun v4 w =>
  S P (vconv 41 5 v4) w Kp fun v5 w =>
  S P (vcall (Value.func (Fn.func 16) #[] #[]) #[x0, v3, v5]) w Kp fun v6 w =>
  K (Value.tuple #[]) w
theorem F149_eq (x0 x1 x2 : Value) (w : World) (Kp : KP) (K : K0) : F149 x0 x1 x2 w Kp K = wpE P [] (bodyOf Tryz.f149) (postE P Tryz.f149.results.toList Kp K) (List.range 3 ++ []) (ε0 #[x0, x1, x2]) w := by kernel_rfl
theorem F149_calls {x0 x1 x2 : Value} {w : World} {Kp : KP} {K : K0} (h : F149 x0 x1 x2 w Kp K) : Calls P 149 #[x0, x1, x2] w (EndsS Kp K) :=
  calls_of follows [] Tryz.func149 (by kernel_rfl) (by kernel_rfl) (by kernel_rfl) (F149_eq x0 x1 x2 w Kp K ▸ h)

/-- (*wisp/mem.Memory).Plot -/
def F152 (x0 x1 x2 x3 : Value) (w : World) (Kp : KP) (K : K0) : Prop :=
  S P (vbin .lss 41 false true x1 (Value.int IntKind.u16 64)) w Kp fun v1 w =>
  GS v1 true P (vmove x2) w Kp fun v2 w =>
  GS v1 true P (vbin .lss 41 false true v2 (Value.int IntKind.u16 48)) w Kp fun v3 w =>
  S P (vpick v1 v3 (Value.bool false)) w Kp fun v4 w =>
  C v4 (S P (vbin .mul 41 true false (Value.int IntKind.u16 64) x2) w Kp fun v5 w =>
  S P (vbin .add 41 true false (Value.int IntKind.u16 49152) v5) w Kp fun v6 w =>
  S P (vbin .add 41 false false v6 x1) w Kp fun v7 w =>
  S P (vconv 41 5 x3) w Kp fun v8 w =>
  S P (vcall (Value.func (Fn.func 16) #[] #[]) #[x0, v7, v8]) w Kp fun v9 w =>
  K (Value.tuple #[]) w)
  (K (Value.tuple #[]) w)
theorem F152_eq (x0 x1 x2 x3 : Value) (w : World) (Kp : KP) (K : K0) : F152 x0 x1 x2 x3 w Kp K = wpE P [] (bodyOf Tryz.f152) (postE P Tryz.f152.results.toList Kp K) (List.range 4 ++ []) (ε0 #[x0, x1, x2, x3]) w := by kernel_rfl
theorem F152_calls {x0 x1 x2 x3 : Value} {w : World} {Kp : KP} {K : K0} (h : F152 x0 x1 x2 x3 w Kp K) : Calls P 152 #[x0, x1, x2, x3] w (EndsS Kp K) :=
  calls_of follows [] Tryz.func152 (by kernel_rfl) (by kernel_rfl) (by kernel_rfl) (F152_eq x0 x1 x2 x3 w Kp K ▸ h)

/-- (*wisp/mem.Memory).Play -/
def F154 (x0 x1 x2 : Value) (w : World) (Kp : KP) (K : K0) : Prop :=
  S P (vcall (Value.func (Fn.func 149) #[] #[]) #[x0, (Value.int IntKind.u16 65284), x1]) w Kp fun v1 w =>
  S P (vcall (Value.func (Fn.func 16) #[] #[]) #[x0, (Value.int IntKind.u16 65286), x2]) w Kp fun v2 w =>
  K (Value.tuple #[]) w
theorem F154_eq (x0 x1 x2 : Value) (w : World) (Kp : KP) (K : K0) : F154 x0 x1 x2 w Kp K = wpE P [] (bodyOf Tryz.f154) (postE P Tryz.f154.results.toList Kp K) (List.range 3 ++ []) (ε0 #[x0, x1, x2]) w := by kernel_rfl
theorem F154_calls {x0 x1 x2 : Value} {w : World} {Kp : KP} {K : K0} (h : F154 x0 x1 x2 w Kp K) : Calls P 154 #[x0, x1, x2] w (EndsS Kp K) :=
  calls_of follows [] Tryz.func154 (by kernel_rfl) (by kernel_rfl) (by kernel_rfl) (F154_eq x0 x1 x2 w Kp K ▸ h)

/-- (*wisp/mem.Memory).Choose -/
def F155 (x0 x1 : Value) (w : World) (Kp : KP) (K : K0) : Prop :=
  S P (vconv 41 5 x1) w Kp fun v1 w =>
  S P (vcall (Value.func (Fn.func 16) #[] #[]) #[x0, (Value.int IntKind.u16 65280), v1]) w Kp fun v2 w =>
  K (Value.tuple #[]) w
theorem F155_eq (x0 x1 : Value) (w : World) (Kp : KP) (K : K0) : F155 x0 x1 w Kp K = wpE P [] (bodyOf Tryz.f155) (postE P Tryz.f155.results.toList Kp K) (List.range 2 ++ []) (ε0 #[x0, x1]) w := by kernel_rfl
theorem F155_calls {x0 x1 : Value} {w : World} {Kp : KP} {K : K0} (h : F155 x0 x1 w Kp K) : Calls P 155 #[x0, x1] w (EndsS Kp K) :=
  calls_of follows [] Tryz.func155 (by kernel_rfl) (by kernel_rfl) (by kernel_rfl) (F155_eq x0 x1 w Kp K ▸ h)

/-- (*wisp/mem.Memory).Pad -/
def F153 (x0 : Value) (w : World) (Kp : KP) (K : K0) : Prop :=
  S P (vcall (Value.func (Fn.func 105) #[] #[]) #[x0, (Value.int IntKind.u16 65282)]) w Kp fun v1 w =>
  K v1 w
theorem F153_eq (x0 : Value) (w : World) (Kp : KP) (K : K0) : F153 x0 w Kp K = wpE P [2] (bodyOf Tryz.f153) (postE P Tryz.f153.results.toList Kp K) (List.range 1 ++ [2]) (ε0 #[x0]) w := by kernel_rfl
theorem F153_calls {x0 : Value} {w : World} {Kp : KP} {K : K0} (h : F153 x0 w Kp K) : Calls P 153 #[x0] w (EndsS Kp K) :=
  calls_of follows [2] Tryz.func153 (by kernel_rfl) (by kernel_rfl) (by kernel_rfl) (F153_eq x0 w Kp K ▸ h)

/-- (*wisp/mem.Memory).Tones -/
def F50 (x0 : Value) (w : World) (Kp : KP) (K : K0) : Prop :=
  S P (vbin .eql 34 false true x0 (Value.pointer none)) w Kp fun v1 w =>
  C v1 (K (Value.slice none 0 0) w)
  (S P (vnil x0) w Kp fun v2 w =>
  S P (vfield 115 v2 9) w Kp fun v3 w =>
  S P (vload 67 v3) w Kp fun v4 w =>
  S P (vcall (Value.func (Fn.func 83) #[] #[]) #[v4]) w Kp fun v5 w =>
  K v5 w)
theorem F50_eq (x0 : Value) (w : World) (Kp : KP) (K : K0) : F50 x0 w Kp K = wpE P [0, 2] (bodyOf Tryz.f50) (postE P Tryz.f50.results.toList Kp K) (List.range 1 ++ [0, 2]) (ε0 #[x0]) w := by kernel_rfl
theorem F50_calls {x0 : Value} {w : World} {Kp : KP} {K : K0} (h : F50 x0 w Kp K) : Calls P 50 #[x0] w (EndsS Kp K) :=
  calls_of follows [0, 2] Tryz.func50 (by kernel_rfl) (by kernel_rfl) (by kernel_rfl) (F50_eq x0 w Kp K ▸ h)

/-- slices.Clone[[]wisp/api.Tone,wisp/api.Tone] -/
def F83 (x0 : Value) (w : World) (Kp : KP) (K : K0) : Prop :=
  S P (vbin .eql 67 false true x0 (Value.slice none 0 0)) w Kp fun v1 w =>
  C v1 (K (Value.slice none 0 0) w)
  (S P (vbuildS 67 0 #[]) w Kp fun v2 w =>
  S P (vblt .append #[67, 67] 67 #[false, false] #[v2, x0]) w Kp fun v3 w =>
  K v3 w)
theorem F83_eq (x0 : Value) (w : World) (Kp : KP) (K : K0) : F83 x0 w Kp K = wpE P [0, 2] (bodyOf Tryz.f83) (postE P Tryz.f83.results.toList Kp K) (List.range 1 ++ [0, 2]) (ε0 #[x0]) w := by kernel_rfl
theorem F83_calls {x0 : Value} {w : World} {Kp : KP} {K : K0} (h : F83 x0 w Kp K) : Calls P 83 #[x0] w (EndsS Kp K) :=
  calls_of follows [0, 2] Tryz.func83 (by kernel_rfl) (by kernel_rfl) (by kernel_rfl) (F83_eq x0 w Kp K ▸ h)

/-- wisp/mem.New -/
def F37 (x0 : Value) (w : World) (Kp : KP) (K : K0) : Prop :=
  S P (vmkM 110 none) w Kp fun v1 w =>
  S P (vbuild 115 #[(0, v1)]) w Kp fun v2 w =>
  S P (vbox 115 v2) w Kp fun v3 w =>
  S P (vblt .len #[65] 3 #[false] #[x0]) w Kp fun v4 w =>
  ∃ I μ, LoopE I μ (fun K6 ε5 w =>
  S P (vbin .lss 3 false false (ε5 14) (ε5 13)) w Kp fun v7 w =>
  C v7 (S P (vixA 65 (ε5 12) (ε5 14)) w Kp fun v8 w =>
  S P (vload 79 v8) w Kp fun v9 w =>
  S P (valloc 79) w Kp fun v10 w =>
  S P (vstore 79 v10 v9) w Kp fun v11 w =>
  S P (vfield 79 v10 0) w Kp fun v12 w =>
  S P (vload 3 v12) w Kp fun v13 w =>
  S P (vbin .leq 3 false false v13 (ε5 5)) w Kp fun v14 w =>
  GS v14 false P (vfield 79 v10 0) w Kp fun v15 w =>
  GS v14 false P (vload 3 v15) w Kp fun v16 w =>
  GS v14 false P (vbin .geq 3 false true v16 (Value.int IntKind.i64 16)) w Kp fun v17 w =>
  S P (vpick v14 (Value.bool true) v17) w Kp fun v18 w =>
  GS v18 false P (vfield 79 v10 1) w Kp fun v19 w =>
  GS v18 false P (vload 66 v19) w Kp fun v20 w =>
  GS v18 false P (vblt .len #[66] 3 #[false] #[v20]) w Kp fun v21 w =>
  GS v18 false P (vbin .gtr 3 false true v21 (Value.int IntKind.i64 16384)) w Kp fun v22 w =>
  S P (vpick v18 (Value.bool true) v22) w Kp fun v23 w =>
  C v23 (K (Value.tuple #[(Value.pointer none), (Value.int IntKind.i64 2)]) w)
  (S P (vfield 79 v10 0) w Kp fun v24 w =>
  S P (vload 3 v24) w Kp fun v25 w =>
  S P (vbuild 139 #[]) w Kp fun v26 w =>
  S P (vbox 139 v26) w Kp fun v27 w =>
  ∃ H28 : World → Prop, H28 (drewW w) ∧
  Fl P H28 (vnil v27) fun v29 =>
  Fl P H28 (vslice 139 v29 none none none) fun v30 =>
  Fl P H28 (vfield 79 v10 1) fun v31 =>
  Fl P H28 (vload 66 v31) fun v32 =>
  S P (vblt .copy #[66, 66] 3 #[false, false] #[v30, v32]) (drewW w) Kp fun v33 w =>
  ∃ H34 : World → Prop, H34 (drewW w) ∧
  Fl P H34 (vnil (ε5 4)) fun v35 =>
  Fl P H34 (vfield 115 v35 0) fun v36 =>
  Fl P H34 (vload 110 v36) fun v37 =>
  Fl P H34 (vfield 79 v10 0) fun v38 =>
  Fl P H34 (vload 3 v38) fun v39 =>
  Fl P H34 (vconv 3 5 v39) fun v40 =>
  S P (vmupd 110 v37 v40 v27) (drewW w) Kp fun v41 w =>
  S P (vbin .add 3 false true (ε5 14) (Value.int IntKind.i64 1)) w Kp fun v42 w =>
  K6 (upd 2 (ε5 2) (upd 3 (ε5 3) (upd 4 (ε5 4) (upd 5 v25 (upd 7 v10 (upd 12 (ε5 12) (upd 13 (ε5 13) (upd 14 v42 E0)))))))) w))
  (K (Value.tuple #[(ε5 4), (Value.int IntKind.i64 0)]) w)) (upd 2 (Value.pointer none) (upd 3 (Value.int IntKind.i64 0) (upd 4 v3 (upd 5 (Value.int IntKind.i64 (-1)) (upd 7 undef (upd 12 x0 (upd 13 v4 (upd 14 (Value.int IntKind.i64 0) E0)))))))) w
theorem F37_eq (x0 : Value) (w : World) (Kp : KP) (K : K0) : F37 x0 w Kp K = wpE P [2, 3, 4, 5, 7, 12, 13, 14] (bodyOf Tryz.f37) (postE P Tryz.f37.results.toList Kp K) (List.range 1 ++ [2, 3, 4, 5, 7, 12, 13, 14]) (ε0 #[x0]) w := by kernel_rfl
theorem F37_calls {x0 : Value} {w : World} {Kp : KP} {K : K0} (h : F37 x0 w Kp K) : Calls P 37 #[x0] w (EndsS Kp K) :=
  calls_of follows [2, 3, 4, 5, 7, 12, 13, 14] Tryz.func37 (by kernel_rfl) (by kernel_rfl) (by kernel_rfl) (F37_eq x0 w Kp K ▸ h)

/-- (*wisp/mem.Memory).Begin -/
def F15 (x0 x1 : Value) (w : World) (Kp : KP) (K : K0) : Prop :=
  S P (vbin .eql 34 false true x0 (Value.pointer none)) w Kp fun v1 w =>
  C v1 (K (Value.tuple #[]) w)
  (S P (vnil x0) w Kp fun v2 w =>
  S P (vfield 115 v2 4) w Kp fun v3 w =>
  S P (vstore 5 v3 x1) w Kp fun v4 w =>
  S P (vnil x0) w Kp fun v5 w =>
  S P (vfield 115 v5 7) w Kp fun v6 w =>
  S P (vload 41 v6) w Kp fun v7 w =>
  S P (vbin .add 41 false true v7 (Value.int IntKind.u16 1)) w Kp fun v8 w =>
  S P (vnil x0) w Kp fun v9 w =>
  S P (vfield 115 v9 7) w Kp fun v10 w =>
  S P (vstore 41 v10 v8) w Kp fun v11 w =>
  S P (vnil x0) w Kp fun v12 w =>
  S P (vfield 115 v12 8) w Kp fun v13 w =>
  S P (vstore 3 v13 (Value.int IntKind.i64 0)) w Kp fun v14 w =>
  S P (vnil x0) w Kp fun v15 w =>
  S P (vfield 115 v15 9) w Kp fun v16 w =>
  S P (vstore 67 v16 (Value.slice none 0 0)) w Kp fun v17 w =>
  K (Value.tuple #[]) w)
theorem F15_eq (x0 x1 : Value) (w : World) (Kp : KP) (K : K0) : F15 x0 x1 w Kp K = wpE P [0, 1] (bodyOf Tryz.f15) (postE P Tryz.f15.results.toList Kp K) (List.range 2 ++ [0, 1]) (ε0 #[x0, x1]) w := by kernel_rfl
theorem F15_calls {x0 x1 : Value} {w : World} {Kp : KP} {K : K0} (h : F15 x0 x1 w Kp K) : Calls P 15 #[x0, x1] w (EndsS Kp K) :=
  calls_of follows [0, 1] Tryz.func15 (by kernel_rfl) (by kernel_rfl) (by kernel_rfl) (F15_eq x0 x1 w Kp K ▸ h)

/-- (*wisp/mem.Memory).At -/
def F32 (x0 x1 : Value) (w : World) (Kp : KP) (K : K0) : Prop :=
  S P (vbin .neq 34 false true x0 (Value.pointer none)) w Kp fun v1 w =>
  C v1 (S P (vnil x0) w Kp fun v2 w =>
  S P (vfield 115 v2 8) w Kp fun v3 w =>
  S P (vstore 3 v3 x1) w Kp fun v4 w =>
  K (Value.tuple #[]) w)
  (K (Value.tuple #[]) w)
theorem F32_eq (x0 x1 : Value) (w : World) (Kp : KP) (K : K0) : F32 x0 x1 w Kp K = wpE P [] (bodyOf Tryz.f32) (postE P Tryz.f32.results.toList Kp K) (List.range 2 ++ []) (ε0 #[x0, x1]) w := by kernel_rfl
theorem F32_calls {x0 x1 : Value} {w : World} {Kp : KP} {K : K0} (h : F32 x0 x1 w Kp K) : Calls P 32 #[x0, x1] w (EndsS Kp K) :=
  calls_of follows [] Tryz.func32 (by kernel_rfl) (by kernel_rfl) (by kernel_rfl) (F32_eq x0 x1 w Kp K ▸ h)

/-- wisp/wispref04.full -/
def F62 (x0 x1 : Value) (w : World) (Kp : KP) (K : K0) : Prop :=
  S P (vmkS 66 x1 x1) w Kp fun v1 w =>
  S P (vblt .len #[66] 3 #[false] #[x0]) w Kp fun v2 w =>
  ∃ I μ, LoopE I μ (fun K4 ε3 w =>
  S P (vbin .lss 3 false false (ε3 11) (ε3 10)) w Kp fun v5 w =>
  C v5 (S P (vixA 66 (ε3 0) (ε3 11)) w Kp fun v6 w =>
  S P (vload 5 v6) w Kp fun v7 w =>
  S P (vixA 66 (ε3 5) (ε3 11)) w Kp fun v8 w =>
  S P (vstore 5 v8 v7) w Kp fun v9 w =>
  S P (vbin .add 3 false true (ε3 11) (Value.int IntKind.i64 1)) w Kp fun v10 w =>
  K4 (upd 0 (ε3 0) (upd 4 (ε3 4) (upd 5 (ε3 5) (upd 10 (ε3 10) (upd 11 v10 E0))))) w)
  (K (ε3 5) w)) (upd 0 x0 (upd 4 (Value.slice none 0 0) (upd 5 v1 (upd 10 v2 (upd 11 (Value.int IntKind.i64 0) E0))))) w
theorem F62_eq (x0 x1 : Value) (w : World) (Kp : KP) (K : K0) : F62 x0 x1 w Kp K = wpE P [0, 4, 5, 10, 11] (bodyOf Tryz.f62) (postE P Tryz.f62.results.toList Kp K) (List.range 2 ++ [0, 4, 5, 10, 11]) (ε0 #[x0, x1]) w := by kernel_rfl
theorem F62_calls {x0 x1 : Value} {w : World} {Kp : KP} {K : K0} (h : F62 x0 x1 w Kp K) : Calls P 62 #[x0, x1] w (EndsS Kp K) :=
  calls_of follows [0, 4, 5, 10, 11] Tryz.func62 (by kernel_rfl) (by kernel_rfl) (by kernel_rfl) (F62_eq x0 x1 w Kp K ▸ h)

/-- (*wisp/wispref04.Memory).Load -/
def F94 (x0 x1 : Value) (w : World) (Kp : KP) (K : K0) : Prop :=
  S P (vconv 41 3 x1) w Kp fun v1 w =>
  S P (vbin .lss 3 false true v1 (Value.int IntKind.i64 16384)) w Kp fun v2 w =>
  C v2 (K (Value.int IntKind.u8 0) w)
  (S P (vbin .lss 3 false true v1 (Value.int IntKind.i64 32768)) w Kp fun v3 w =>
  C v3 (S P (vcall (Value.func (Fn.func 59) #[] #[]) #[x0]) w Kp fun v4 w =>
  S P (vbin .eql 66 false true v4 (Value.slice none 0 0)) w Kp fun v5 w =>
  C v5 (K (Value.int IntKind.u8 0) w)
  (S P (vbin .sub 3 false true v1 (Value.int IntKind.i64 16384)) w Kp fun v6 w =>
  S P (vixA 66 v4 v6) w Kp fun v7 w =>
  S P (vload 5 v7) w Kp fun v8 w =>
  K v8 w))
  (S P (vbin .lss 3 false true v1 (Value.int IntKind.i64 49152)) w Kp fun v9 w =>
  C v9 (S P (vnil x0) w Kp fun v10 w =>
  S P (vfield 69 v10 1) w Kp fun v11 w =>
  S P (vload 66 v11) w Kp fun v12 w =>
  S P (vbin .sub 3 false true v1 (Value.int IntKind.i64 32768)) w Kp fun v13 w =>
  S P (vixA 66 v12 v13) w Kp fun v14 w =>
  S P (vload 5 v14) w Kp fun v15 w =>
  K v15 w)
  (S P (vbin .lss 3 false true v1 (Value.int IntKind.i64 52224)) w Kp fun v16 w =>
  C v16 (S P (vnil x0) w Kp fun v17 w =>
  S P (vfield 69 v17 2) w Kp fun v18 w =>
  S P (vload 66 v18) w Kp fun v19 w =>
  S P (vbin .sub 3 false true v1 (Value.int IntKind.i64 49152)) w Kp fun v20 w =>
  S P (vixA 66 v19 v20) w Kp fun v21 w =>
  S P (vload 5 v21) w Kp fun v22 w =>
  K v22 w)
  (S P (vbin .eql 3 false true v1 (Value.int IntKind.i64 65280)) w Kp fun v23 w =>
  C v23 (S P (vnil x0) w Kp fun v24 w =>
  S P (vfield 69 v24 3) w Kp fun v25 w =>
  S P (vload 5 v25) w Kp fun v26 w =>
  K v26 w)
  (S P (vbin .eql 3 false true v1 (Value.int IntKind.i64 65282)) w Kp fun v27 w =>
  C v27 (S P (vnil x0) w Kp fun v28 w =>
  S P (vfield 69 v28 4) w Kp fun v29 w =>
  S P (vload 5 v29) w Kp fun v30 w =>
  K v30 w)
  (S P (vbin .eql 3 false true v1 (Value.int IntKind.i64 65284)) w Kp fun v31 w =>
  C v31 (S P (vnil x0) w Kp fun v32 w =>
  S P (vfield 69 v32 5) w Kp fun v33 w =>
  S P (vload 41 v33) w Kp fun v34 w =>
  S P (vconv 41 5 v34) w Kp fun v35 w =>
  K v35 w)
  (S P (vbin .eql 3 false true v1 (Value.int IntKind.i64 65285)) w Kp fun v36 w =>
  C v36 (S P (vnil x0) w Kp fun v37 w =>
  S P (vfield 69 v37 5) w Kp fun v38 w =>
  S P (vload 41 v38) w Kp fun v39 w =>
  S P (vbin .quo 41 false true v39 (Value.int IntKind.u16 256)) w Kp fun v40 w =>
  S P (vconv 41 5 v40) w Kp fun v41 w =>
  K v41 w)
  (S P (vbin .eql 3 false true v1 (Value.int IntKind.i64 65286)) w Kp fun v42 w =>
  C v42 (S P (vnil x0) w Kp fun v43 w =>
  S P (vfield 69 v43 6) w Kp fun v44 w =>
  S P (vload 5 v44) w Kp fun v45 w =>
  K v45 w)
  (S P (vbin .eql 3 false true v1 (Value.int IntKind.i64 65288)) w Kp fun v46 w =>
  C v46 (S P (vnil x0) w Kp fun v47 w =>
  S P (vfield 69 v47 7) w Kp fun v48 w =>
  S P (vload 41 v48) w Kp fun v49 w =>
  S P (vconv 41 5 v49) w Kp fun v50 w =>
  K v50 w)
  (S P (vbin .eql 3 false true v1 (Value.int IntKind.i64 65289)) w Kp fun v51 w =>
  C v51 (S P (vnil x0) w Kp fun v52 w =>
  S P (vfield 69 v52 7) w Kp fun v53 w =>
  S P (vload 41 v53) w Kp fun v54 w =>
  S P (vbin .quo 41 false true v54 (Value.int IntKind.u16 256)) w Kp fun v55 w =>
  S P (vconv 41 5 v55) w Kp fun v56 w =>
  K v56 w)
  (K (Value.int IntKind.u8 0) w)))))))))))
theorem F94_eq (x0 x1 : Value) (w : World) (Kp : KP) (K : K0) : F94 x0 x1 w Kp K = wpE P [0, 4, 5, 6] (bodyOf Tryz.f94) (postE P Tryz.f94.results.toList Kp K) (List.range 2 ++ [0, 4, 5, 6]) (ε0 #[x0, x1]) w := by kernel_rfl
theorem F94_calls {x0 x1 : Value} {w : World} {Kp : KP} {K : K0} (h : F94 x0 x1 w Kp K) : Calls P 94 #[x0, x1] w (EndsS Kp K) :=
  calls_of follows [0, 4, 5, 6] Tryz.func94 (by kernel_rfl) (by kernel_rfl) (by kernel_rfl) (F94_eq x0 x1 w Kp K ▸ h)

/-- (*wisp/wispref04.Memory).Store -/
def F30 (x0 x1 x2 : Value) (w : World) (Kp : KP) (K : K0) : Prop :=
  S P (vconv 41 3 x1) w Kp fun v1 w =>
  S P (vbin .lss 3 false true v1 (Value.int IntKind.i64 16384)) w Kp fun v2 w =>
  C v2 (K (Value.tuple #[]) w)
  (S P (vbin .lss 3 false true v1 (Value.int IntKind.i64 32768)) w Kp fun v3 w =>
  C v3 (S P (vcall (Value.func (Fn.func 59) #[] #[]) #[x0]) w Kp fun v4 w =>
  S P (vbin .neq 66 false true v4 (Value.slice none 0 0)) w Kp fun v5 w =>
  C v5 (S P (vbin .sub 3 false true v1 (Value.int IntKind.i64 16384)) w Kp fun v6 w =>
  S P (vixA 66 v4 v6) w Kp fun v7 w =>
  S P (vstore 5 v7 x2) w Kp fun v8 w =>
  K (Value.tuple #[]) w)
  (K (Value.tuple #[]) w))
  (S P (vbin .lss 3 false true v1 (Value.int IntKind.i64 49152)) w Kp fun v9 w =>
  C v9 (S P (vnil x0) w Kp fun v10 w =>
  S P (vfield 69 v10 1) w Kp fun v11 w =>
  S P (vload 66 v11) w Kp fun v12 w =>
  S P (vbin .sub 3 false true v1 (Value.int IntKind.i64 32768)) w Kp fun v13 w =>
  S P (vixA 66 v12 v13) w Kp fun v14 w =>
  S P (vstore 5 v14 x2) w Kp fun v15 w =>
  K (Value.tuple #[]) w)
  (S P (vbin .lss 3 false true v1 (Value.int IntKind.i64 52224)) w Kp fun v16 w =>
  C v16 (S P (vnil x0) w Kp fun v17 w =>
  S P (vfield 69 v17 2) w Kp fun v18 w =>
  S P (vload 66 v18) w Kp fun v19 w =>
  S P (vbin .sub 3 false true v1 (Value.int IntKind.i64 49152)) w Kp fun v20 w =>
  S P (vixA 66 v19 v20) w Kp fun v21 w =>
  S P (vstore 5 v21 x2) w Kp fun v22 w =>
  K (Value.tuple #[]) w)
  (S P (vbin .eql 3 false true v1 (Value.int IntKind.i64 65280)) w Kp fun v23 w =>
  C v23 (S P (vbin .rem 5 false true x2 (Value.int IntKind.u8 16)) w Kp fun v24 w =>
  S P (vnil x0) w Kp fun v25 w =>
  S P (vfield 69 v25 3) w Kp fun v26 w =>
  S P (vstore 5 v26 v24) w Kp fun v27 w =>
  K (Value.tuple #[]) w)
  (S P (vbin .eql 3 false true v1 (Value.int IntKind.i64 65284)) w Kp fun v28 w =>
  C v28 (S P (vnil x0) w Kp fun v29 w =>
  S P (vfield 69 v29 5) w Kp fun v30 w =>
  S P (vload 41 v30) w Kp fun v31 w =>
  S P (vbin .quo 41 false true v31 (Value.int IntKind.u16 256)) w Kp fun v32 w =>
  S P (vbin .mul 41 false true v32 (Value.int IntKind.u16 256)) w Kp fun v33 w =>
  S P (vconv 5 41 x2) w Kp fun v34 w =>
  S P (vbin .add 41 false false v33 v34) w Kp fun v35 w =>
  S P (vnil x0) w Kp fun v36 w =>
  S P (vfield 69 v36 5) w Kp fun v37 w =>
  S P (vstore 41 v37 v35) w Kp fun v38 w =>
  K (Value.tuple #[]) w)
  (S P (vbin .eql 3 false true v1 (Value.int IntKind.i64 65285)) w Kp fun v39 w =>
  C v39 (S P (vnil x0) w Kp fun v40 w =>
  S P (vfield 69 v40 5) w Kp fun v41 w =>
  S P (vload 41 v41) w Kp fun v42 w =>
  S P (vbin .rem 41 false true v42 (Value.int IntKind.u16 256)) w Kp fun v43 w =>
  S P (vconv 5 41 x2) w Kp fun v44 w =>
  S P (vbin .mul 41 true false (Value.int IntKind.u16 256) v44) w Kp fun v45 w =>
  S P (vbin .add 41 false false v43 v45) w Kp fun v46 w =>
  S P (vnil x0) w Kp fun v47 w =>
  S P (vfield 69 v47 5) w Kp fun v48 w =>
  S P (vstore 41 v48 v46) w Kp fun v49 w =>
  K (Value.tuple #[]) w)
  (S P (vbin .eql 3 false true v1 (Value.int IntKind.i64 65286)) w Kp fun v50 w =>
  C v50 (S P (vnil x0) w Kp fun v51 w =>
  S P (vfield 69 v51 6) w Kp fun v52 w =>
  S P (vstore 5 v52 x2) w Kp fun v53 w =>
  ∃ H54 : World → Prop, H54 (drewW w) ∧
  Fl P H54 (vnil x0) fun v55 =>
  Fl P H54 (vfield 69 v55 9) fun v56 =>
  Fl P H54 (vload 67 v56) fun v57 =>
  Fl P H54 (vnil x0) fun v58 =>
  Fl P H54 (vfield 69 v58 8) fun v59 =>
  Fl P H54 (vload 3 v59) fun v60 =>
  Fl P H54 (vnil x0) fun v61 =>
  Fl P H54 (vfield 69 v61 5) fun v62 =>
  Fl P H54 (vload 41 v62) fun v63 =>
  Fl P H54 (vbuild 120 #[(0, v60), (1, v63), (2, x2)]) fun v64 =>
  S P (vbuildS 67 1 #[(0, v64)]) (drewW w) Kp fun v65 w =>
  H54 w ∧ S P (vblt .append #[67, 67] 67 #[false, false] #[v57, v65]) w Kp fun v66 w =>
  H54 w ∧ Fl P H54 (vnil x0) fun v67 =>
  Fl P H54 (vfield 69 v67 9) fun v68 =>
  S P (vstore 67 v68 v66) w Kp fun v69 w =>
  K (Value.tuple #[]) w)
  (K (Value.tuple #[]) w))))))))
theorem F30_eq (x0 x1 x2 : Value) (w : World) (Kp : KP) (K : K0) : F30 x0 x1 x2 w Kp K = wpE P [] (bodyOf Tryz.f30) (postE P Tryz.f30.results.toList Kp K) (List.range 3 ++ []) (ε0 #[x0, x1, x2]) w := by kernel_rfl
theorem F30_calls {x0 x1 x2 : Value} {w : World} {Kp : KP} {K : K0} (h : F30 x0 x1 x2 w Kp K) : Calls P 30 #[x0, x1, x2] w (EndsS Kp K) :=
  calls_of follows [] Tryz.func30 (by kernel_rfl) (by kernel_rfl) (by kernel_rfl) (F30_eq x0 x1 x2 w Kp K ▸ h)

/-- (*wisp/wispref04.Memory).Cell -/
def F72 (x0 x1 : Value) (w : World) (Kp : KP) (K : K0) : Prop :=
  S P (vcall (Value.func (Fn.func 94) #[] #[]) #[x0, x1]) w Kp fun v1 w =>
  S P (vconv 5 41 v1) w Kp fun v2 w =>
  S P (vbin .add 41 false true x1 (Value.int IntKind.u16 1)) w Kp fun v3 w =>
  S P (vcall (Value.func (Fn.func 94) #[] #[]) #[x0, v3]) w Kp fun v4 w =>
  S P (vconv 5 41 v4) w Kp fun v5 w =>
  S P (vbin .mul 41 true false (Value.int IntKind.u16 256) v5) w Kp fun v6 w =>
  S P (vbin .add 41 false false v2 v6) w Kp fun v7 w =>
  K v7 w
theorem F72_eq (x0 x1 : Value) (w : World) (Kp : KP) (K : K0) : F72 x0 x1 w Kp K = wpE P [4] (bodyOf Tryz.f72) (postE P Tryz.f72.results.toList Kp K) (List.range 2 ++ [4]) (ε0 #[x0, x1]) w := by kernel_rfl
theorem F72_calls {x0 x1 : Value} {w : World} {Kp : KP} {K : K0} (h : F72 x0 x1 w Kp K) : Calls P 72 #[x0, x1] w (EndsS Kp K) :=
  calls_of follows [4] Tryz.func72 (by kernel_rfl) (by kernel_rfl) (by kernel_rfl) (F72_eq x0 x1 w Kp K ▸ h)

/-- (*wisp/wispref04.Memory).SetCell -/
def F93 (x0 x1 x2 : Value) (w : World) (Kp : KP) (K : K0) : Prop :=
  S P (vconv 41 5 x2) w Kp fun v1 w =>
  S P (vcall (Value.func (Fn.func 30) #[] #[]) #[x0, x1, v1]) w Kp fun v2 w =>
  S P (vbin .add 41 false true x1 (Value.int IntKind.u16 1)) w Kp fun v3 w =>
  S P (vbin .quo 41 false true x2 (Value.int IntKind.u16 256)) w Kp fun v4 w =>
  S P (vconv 41 5 v4) w Kp fun v5 w =>
  S P (vcall (Value.func (Fn.func 30) #[] #[]) #[x0, v3, v5]) w Kp fun v6 w =>
  K (Value.tuple #[]) w
theorem F93_eq (x0 x1 x2 : Value) (w : World) (Kp : KP) (K : K0) : F93 x0 x1 x2 w Kp K = wpE P [] (bodyOf Tryz.f93) (postE P Tryz.f93.results.toList Kp K) (List.range 3 ++ []) (ε0 #[x0, x1, x2]) w := by kernel_rfl
theorem F93_calls {x0 x1 x2 : Value} {w : World} {Kp : KP} {K : K0} (h : F93 x0 x1 x2 w Kp K) : Calls P 93 #[x0, x1, x2] w (EndsS Kp K) :=
  calls_of follows [] Tryz.func93 (by kernel_rfl) (by kernel_rfl) (by kernel_rfl) (F93_eq x0 x1 x2 w Kp K ▸ h)

/-- (*wisp/wispref04.Memory).Plot -/
def F95 (x0 x1 x2 x3 : Value) (w : World) (Kp : KP) (K : K0) : Prop :=
  S P (vbin .lss 41 false true x1 (Value.int IntKind.u16 64)) w Kp fun v1 w =>
  GS v1 true P (vmove x2) w Kp fun v2 w =>
  GS v1 true P (vbin .lss 41 false true v2 (Value.int IntKind.u16 48)) w Kp fun v3 w =>
  S P (vpick v1 v3 (Value.bool false)) w Kp fun v4 w =>
  C v4 (S P (vbin .mul 41 true false (Value.int IntKind.u16 64) x2) w Kp fun v5 w =>
  S P (vbin .add 41 true false (Value.int IntKind.u16 49152) v5) w Kp fun v6 w =>
  S P (vbin .add 41 false false v6 x1) w Kp fun v7 w =>
  S P (vconv 41 5 x3) w Kp fun v8 w =>
  S P (vcall (Value.func (Fn.func 30) #[] #[]) #[x0, v7, v8]) w Kp fun v9 w =>
  K (Value.tuple #[]) w)
  (K (Value.tuple #[]) w)
theorem F95_eq (x0 x1 x2 x3 : Value) (w : World) (Kp : KP) (K : K0) : F95 x0 x1 x2 x3 w Kp K = wpE P [] (bodyOf Tryz.f95) (postE P Tryz.f95.results.toList Kp K) (List.range 4 ++ []) (ε0 #[x0, x1, x2, x3]) w := by kernel_rfl
theorem F95_calls {x0 x1 x2 x3 : Value} {w : World} {Kp : KP} {K : K0} (h : F95 x0 x1 x2 x3 w Kp K) : Calls P 95 #[x0, x1, x2, x3] w (EndsS Kp K) :=
  calls_of follows [] Tryz.func95 (by kernel_rfl) (by kernel_rfl) (by kernel_rfl) (F95_eq x0 x1 x2 x3 w Kp K ▸ h)

/-- (*wisp/wispref04.Memory).Play -/
def F96 (x0 x1 x2 : Value) (w : World) (Kp : KP) (K : K0) : Prop :=
  S P (vcall (Value.func (Fn.func 93) #[] #[]) #[x0, (Value.int IntKind.u16 65284), x1]) w Kp fun v1 w =>
  S P (vcall (Value.func (Fn.func 30) #[] #[]) #[x0, (Value.int IntKind.u16 65286), x2]) w Kp fun v2 w =>
  K (Value.tuple #[]) w
theorem F96_eq (x0 x1 x2 : Value) (w : World) (Kp : KP) (K : K0) : F96 x0 x1 x2 w Kp K = wpE P [] (bodyOf Tryz.f96) (postE P Tryz.f96.results.toList Kp K) (List.range 3 ++ []) (ε0 #[x0, x1, x2]) w := by kernel_rfl
theorem F96_calls {x0 x1 x2 : Value} {w : World} {Kp : KP} {K : K0} (h : F96 x0 x1 x2 w Kp K) : Calls P 96 #[x0, x1, x2] w (EndsS Kp K) :=
  calls_of follows [] Tryz.func96 (by kernel_rfl) (by kernel_rfl) (by kernel_rfl) (F96_eq x0 x1 x2 w Kp K ▸ h)

/-- (*wisp/wispref04.Memory).Choose -/
def F97 (x0 x1 : Value) (w : World) (Kp : KP) (K : K0) : Prop :=
  S P (vconv 41 5 x1) w Kp fun v1 w =>
  S P (vcall (Value.func (Fn.func 30) #[] #[]) #[x0, (Value.int IntKind.u16 65280), v1]) w Kp fun v2 w =>
  K (Value.tuple #[]) w
theorem F97_eq (x0 x1 : Value) (w : World) (Kp : KP) (K : K0) : F97 x0 x1 w Kp K = wpE P [] (bodyOf Tryz.f97) (postE P Tryz.f97.results.toList Kp K) (List.range 2 ++ []) (ε0 #[x0, x1]) w := by kernel_rfl
theorem F97_calls {x0 x1 : Value} {w : World} {Kp : KP} {K : K0} (h : F97 x0 x1 w Kp K) : Calls P 97 #[x0, x1] w (EndsS Kp K) :=
  calls_of follows [] Tryz.func97 (by kernel_rfl) (by kernel_rfl) (by kernel_rfl) (F97_eq x0 x1 w Kp K ▸ h)

/-- (*wisp/wispref04.Memory).bank -/
def F59 (x0 : Value) (w : World) (Kp : KP) (K : K0) : Prop :=
  S P (vnil x0) w Kp fun v1 w =>
  S P (vfield 69 v1 0) w Kp fun v2 w =>
  S P (vload 65 v2) w Kp fun v3 w =>
  S P (vblt .len #[65] 3 #[false] #[v3]) w Kp fun v4 w =>
  ∃ I μ, LoopE I μ (fun K6 ε5 w =>
  S P (vbin .lss 3 false false (ε5 10) (ε5 9)) w Kp fun v7 w =>
  C v7 (S P (vixA 65 (ε5 8) (ε5 10)) w Kp fun v8 w =>
  S P (vload 79 v8) w Kp fun v9 w =>
  S P (valloc 79) w Kp fun v10 w =>
  S P (vstore 79 v10 v9) w Kp fun v11 w =>
  ∃ H12 : World → Prop, H12 (drewW w) ∧
  Fl P H12 (vfield 79 v10 0) fun v13 =>
  Fl P H12 (vload 3 v13) fun v14 =>
  Fl P H12 (vnil (ε5 0)) fun v15 =>
  Fl P H12 (vfield 69 v15 3) fun v16 =>
  Fl P H12 (vload 5 v16) fun v17 =>
  Fl P H12 (vconv 5 3 v17) fun v18 =>
  Fl P H12 (vbin .eql 3 false false v14 v18) fun v19 =>
  C v19 (S P (vfield 79 v10 1) (drewW w) Kp fun v20 w =>
  S P (vload 66 v20) w Kp fun v21 w =>
  K v21 w)
  (S P (vbin .add 3 false true (ε5 10) (Value.int IntKind.i64 1)) (drewW w) Kp fun v22 w =>
  K6 (upd 0 (ε5 0) (upd 2 (ε5 2) (upd 8 (ε5 8) (upd 9 (ε5 9) (upd 10 v22 E0))))) w))
  (K (Value.slice none 0 0) w)) (upd 0 x0 (upd 2 (Value.slice none 0 0) (upd 8 v3 (upd 9 v4 (upd 10 (Value.int IntKind.i64 0) E0))))) w
theorem F59_eq (x0 : Value) (w : World) (Kp : KP) (K : K0) : F59 x0 w Kp K = wpE P [0, 2, 8, 9, 10] (bodyOf Tryz.f59) (postE P Tryz.f59.results.toList Kp K) (List.range 1 ++ [0, 2, 8, 9, 10]) (ε0 #[x0]) w := by kernel_rfl
theorem F59_calls {x0 : Value} {w : World} {Kp : KP} {K : K0} (h : F59 x0 w Kp K) : Calls P 59 #[x0] w (EndsS Kp K) :=
  calls_of follows [0, 2, 8, 9, 10] Tryz.func59 (by kernel_rfl) (by kernel_rfl) (by kernel_rfl) (F59_eq x0 w Kp K ▸ h)

/-- wisp/wispref04.MayBanks -/
def F61 (x0 : Value) (w : World) (Kp : KP) (K : K0) : Prop :=
  S P (vblt .len #[65] 3 #[false] #[x0]) w Kp fun v1 w =>
  ∃ I μ, LoopE I μ (fun K3 ε2 w =>
  S P (vbin .lss 3 false false (ε2 8) (ε2 7)) w Kp fun v4 w =>
  C v4 (S P (vixA 65 (ε2 6) (ε2 8)) w Kp fun v5 w =>
  S P (vload 79 v5) w Kp fun v6 w =>
  S P (valloc 79) w Kp fun v7 w =>
  S P (vstore 79 v7 v6) w Kp fun v8 w =>
  S P (vfield 79 v7 0) w Kp fun v9 w =>
  S P (vload 3 v9) w Kp fun v10 w =>
  S P (vbin .leq 3 false false v10 (ε2 3)) w Kp fun v11 w =>
  GS v11 false P (vfield 79 v7 0) w Kp fun v12 w =>
  GS v11 false P (vload 3 v12) w Kp fun v13 w =>
  GS v11 false P (vbin .gtr 3 false true v13 (Value.int IntKind.i64 15)) w Kp fun v14 w =>
  S P (vpick v11 (Value.bool true) v14) w Kp fun v15 w =>
  GS v15 false P (vfield 79 v7 1) w Kp fun v16 w =>
  GS v15 false P (vload 66 v16) w Kp fun v17 w =>
  GS v15 false P (vblt .len #[66] 3 #[false] #[v17]) w Kp fun v18 w =>
  GS v15 false P (vbin .gtr 3 false true v18 (Value.int IntKind.i64 16384)) w Kp fun v19 w =>
  S P (vpick v15 (Value.bool true) v19) w Kp fun v20 w =>
  C v20 (K (Value.bool false) w)
  (S P (vfield 79 v7 0) w Kp fun v21 w =>
  S P (vload 3 v21) w Kp fun v22 w =>
  S P (vbin .add 3 false true (ε2 8) (Value.int IntKind.i64 1)) w Kp fun v23 w =>
  K3 (upd 2 (ε2 2) (upd 3 v22 (upd 5 v7 (upd 6 (ε2 6) (upd 7 (ε2 7) (upd 8 v23 E0)))))) w))
  (K (Value.bool true) w)) (upd 2 (Value.bool false) (upd 3 (Value.int IntKind.i64 (-1)) (upd 5 undef (upd 6 x0 (upd 7 v1 (upd 8 (Value.int IntKind.i64 0) E0)))))) w
theorem F61_eq (x0 : Value) (w : World) (Kp : KP) (K : K0) : F61 x0 w Kp K = wpE P [2, 3, 5, 6, 7, 8] (bodyOf Tryz.f61) (postE P Tryz.f61.results.toList Kp K) (List.range 1 ++ [2, 3, 5, 6, 7, 8]) (ε0 #[x0]) w := by kernel_rfl
theorem F61_calls {x0 : Value} {w : World} {Kp : KP} {K : K0} (h : F61 x0 w Kp K) : Calls P 61 #[x0] w (EndsS Kp K) :=
  calls_of follows [2, 3, 5, 6, 7, 8] Tryz.func61 (by kernel_rfl) (by kernel_rfl) (by kernel_rfl) (F61_eq x0 w Kp K ▸ h)

/-- wisp/wispref04.New -/
def F38 (x0 : Value) (w : World) (Kp : KP) (K : K0) : Prop :=
  S P (vcall (Value.func (Fn.func 61) #[] #[]) #[x0]) w Kp fun v1 w =>
  S P (vun .not v1) w Kp fun v2 w =>
  C v2 (K (Value.tuple #[(Value.pointer none), (Value.int IntKind.i64 2)]) w)
  (∃ H3 : World → Prop, H3 (drewW w) ∧
  (S P (vmkS 66 (Value.int IntKind.i64 16384) (Value.int IntKind.i64 16384)) (drewW w) Kp fun v4 w =>
  ∃ H5 : World → Prop, H5 w ∧
  S P (vmkS 66 (Value.int IntKind.i64 3072) (Value.int IntKind.i64 3072)) w Kp fun v6 w =>
  H5 w ∧ Fl P H5 (vbuild 69 #[(1, v4), (2, v6)]) fun v7 =>
  S P (vbox 69 v7) w Kp fun v8 w =>
  ∃ H9 : World → Prop, H9 w ∧
  S P (vblt .len #[65] 3 #[false] #[x0]) w Kp fun v10 w =>
  ∃ I μ, LoopE I μ (fun K12 ε11 w =>
  S P (vbin .lss 3 false false (ε11 16) (ε11 15)) w Kp fun v13 w =>
  C v13 (S P (vixA 65 (ε11 14) (ε11 16)) w Kp fun v14 w =>
  S P (vload 79 v14) w Kp fun v15 w =>
  S P (valloc 79) w Kp fun v16 w =>
  S P (vstore 79 v16 v15) w Kp fun v17 w =>
  ∃ H18 : World → Prop, H18 (drewW w) ∧
  Fl P H18 (vnil (ε11 4)) fun v19 =>
  Fl P H18 (vfield 69 v19 0) fun v20 =>
  Fl P H18 (vload 65 v20) fun v21 =>
  Fl P H18 (vfield 79 v16 0) fun v22 =>
  Fl P H18 (vload 3 v22) fun v23 =>
  Fl P H18 (vfield 79 v16 1) fun v24 =>
  Fl P H18 (vload 66 v24) fun v25 =>
  S P (vcall (Value.func (Fn.func 62) #[] #[]) #[v25, (Value.int IntKind.i64 16384)]) (drewW w) Kp fun v26 w =>
  H18 w ∧ Fl P H18 (vbuild 79 #[(0, v23), (1, v26)]) fun v27 =>
  S P (vbuildS 65 1 #[(0, v27)]) w Kp fun v28 w =>
  H18 w ∧ S P (vblt .append #[65, 65] 65 #[false, false] #[v21, v28]) w Kp fun v29 w =>
  H18 w ∧ Fl P H18 (vnil (ε11 4)) fun v30 =>
  Fl P H18 (vfield 69 v30 0) fun v31 =>
  S P (vstore 65 v31 v29) w Kp fun v32 w =>
  S P (vbin .add 3 false true (ε11 16) (Value.int IntKind.i64 1)) w Kp fun v33 w =>
  K12 (upd 0 (ε11 0) (upd 2 (ε11 2) (upd 3 (ε11 3) (upd 4 (ε11 4) (upd 14 (ε11 14) (upd 15 (ε11 15) (upd 16 v33 E0))))))) w)
  (K (Value.tuple #[(ε11 4), (Value.int IntKind.i64 0)]) w)) (upd 0 x0 (upd 2 (Value.pointer none) (upd 3 (Value.int IntKind.i64 0) (upd 4 v8 (upd 14 x0 (upd 15 v10 (upd 16 (Value.int IntKind.i64 0) E0))))))) w) ∧ (S P (vmkS 66 (Value.int IntKind.i64 3072) (Value.int IntKind.i64 3072)) (drewW w) Kp fun v34 w =>
  ∃ H35 : World → Prop, H35 w ∧
  S P (vmkS 66 (Value.int IntKind.i64 16384) (Value.int IntKind.i64 16384)) w Kp fun v36 w =>
  H35 w ∧ Fl P H35 (vbuild 69 #[(1, v36), (2, v34)]) fun v37 =>
  S P (vbox 69 v37) w Kp fun v38 w =>
  ∃ H39 : World → Prop, H39 w ∧
  S P (vblt .len #[65] 3 #[false] #[x0]) w Kp fun v40 w =>
  ∃ I μ, LoopE I μ (fun K42 ε41 w =>
  S P (vbin .lss 3 false false (ε41 16) (ε41 15)) w Kp fun v43 w =>
  C v43 (S P (vixA 65 (ε41 14) (ε41 16)) w Kp fun v44 w =>
  S P (vload 79 v44) w Kp fun v45 w =>
  S P (valloc 79) w Kp fun v46 w =>
  S P (vstore 79 v46 v45) w Kp fun v47 w =>
  ∃ H48 : World → Prop, H48 (drewW w) ∧
  Fl P H48 (vnil (ε41 4)) fun v49 =>
  Fl P H48 (vfield 69 v49 0) fun v50 =>
  Fl P H48 (vload 65 v50) fun v51 =>
  Fl P H48 (vfield 79 v46 0) fun v52 =>
  Fl P H48 (vload 3 v52) fun v53 =>
  Fl P H48 (vfield 79 v46 1) fun v54 =>
  Fl P H48 (vload 66 v54) fun v55 =>
  S P (vcall (Value.func (Fn.func 62) #[] #[]) #[v55, (Value.int IntKind.i64 16384)]) (drewW w) Kp fun v56 w =>
  H48 w ∧ Fl P H48 (vbuild 79 #[(0, v53), (1, v56)]) fun v57 =>
  S P (vbuildS 65 1 #[(0, v57)]) w Kp fun v58 w =>
  H48 w ∧ S P (vblt .append #[65, 65] 65 #[false, false] #[v51, v58]) w Kp fun v59 w =>
  H48 w ∧ Fl P H48 (vnil (ε41 4)) fun v60 =>
  Fl P H48 (vfield 69 v60 0) fun v61 =>
  S P (vstore 65 v61 v59) w Kp fun v62 w =>
  S P (vbin .add 3 false true (ε41 16) (Value.int IntKind.i64 1)) w Kp fun v63 w =>
  K42 (upd 0 (ε41 0) (upd 2 (ε41 2) (upd 3 (ε41 3) (upd 4 (ε41 4) (upd 14 (ε41 14) (upd 15 (ε41 15) (upd 16 v63 E0))))))) w)
  (K (Value.tuple #[(ε41 4), (Value.int IntKind.i64 0)]) w)) (upd 0 x0 (upd 2 (Value.pointer none) (upd 3 (Value.int IntKind.i64 0) (upd 4 v38 (upd 14 x0 (upd 15 v40 (upd 16 (Value.int IntKind.i64 0) E0))))))) w))
theorem F38_eq (x0 : Value) (w : World) (Kp : KP) (K : K0) : F38 x0 w Kp K = wpE P [0, 2, 3, 4, 14, 15, 16] (bodyOf Tryz.f38) (postE P Tryz.f38.results.toList Kp K) (List.range 1 ++ [0, 2, 3, 4, 14, 15, 16]) (ε0 #[x0]) w := by kernel_rfl
theorem F38_calls {x0 : Value} {w : World} {Kp : KP} {K : K0} (h : F38 x0 w Kp K) : Calls P 38 #[x0] w (EndsS Kp K) :=
  calls_of follows [0, 2, 3, 4, 14, 15, 16] Tryz.func38 (by kernel_rfl) (by kernel_rfl) (by kernel_rfl) (F38_eq x0 w Kp K ▸ h)

/-- wisp/wispref04.SameTones -/
def F51 (x0 x1 : Value) (w : World) (Kp : KP) (K : K0) : Prop :=
  S P (vblt .len #[67] 3 #[false] #[x0]) w Kp fun v1 w =>
  S P (vblt .len #[67] 3 #[false] #[x1]) w Kp fun v2 w =>
  S P (vbin .neq 3 false false v1 v2) w Kp fun v3 w =>
  C v3 (K (Value.bool false) w)
  (S P (vblt .len #[67] 3 #[false] #[x0]) w Kp fun v4 w =>
  ∃ I μ, LoopE I μ (fun K6 ε5 w =>
  S P (vbin .lss 3 false false (ε5 13) (ε5 12)) w Kp fun v7 w =>
  C v7 (∃ H8 : World → Prop, H8 (drewW w) ∧
  Fl P H8 (vixA 67 (ε5 0) (ε5 13)) fun v9 =>
  Fl P H8 (vload 120 v9) fun v10 =>
  Fl P H8 (vixA 67 (ε5 1) (ε5 13)) fun v11 =>
  Fl P H8 (vload 120 v11) fun v12 =>
  Fl P H8 (vbin .neq 120 false false v10 v12) fun v13 =>
  C v13 (K (Value.bool false) (drewW w))
  (S P (vbin .add 3 false true (ε5 13) (Value.int IntKind.i64 1)) (drewW w) Kp fun v14 w =>
  K6 (upd 0 (ε5 0) (upd 1 (ε5 1) (upd 4 (ε5 4) (upd 12 (ε5 12) (upd 13 v14 E0))))) w))
  (K (Value.bool true) w)) (upd 0 x0 (upd 1 x1 (upd 4 (Value.bool false) (upd 12 v4 (upd 13 (Value.int IntKind.i64 0) E0))))) w)
theorem F51_eq (x0 x1 : Value) (w : World) (Kp : KP) (K : K0) : F51 x0 x1 w Kp K = wpE P [0, 1, 4, 12, 13] (bodyOf Tryz.f51) (postE P Tryz.f51.results.toList Kp K) (List.range 2 ++ [0, 1, 4, 12, 13]) (ε0 #[x0, x1]) w := by kernel_rfl
theorem F51_calls {x0 x1 : Value} {w : World} {Kp : KP} {K : K0} (h : F51 x0 x1 w Kp K) : Calls P 51 #[x0, x1] w (EndsS Kp K) :=
  calls_of follows [0, 1, 4, 12, 13] Tryz.func51 (by kernel_rfl) (by kernel_rfl) (by kernel_rfl) (F51_eq x0 x1 w Kp K ▸ h)

/-- wisp/wispref05.SameCells -/
def F35 (x0 x1 : Value) (w : World) (Kp : KP) (K : K0) : Prop :=
  S P (vblt .len #[22] 3 #[false] #[x0]) w Kp fun v1 w =>
  S P (vblt .len #[22] 3 #[false] #[x1]) w Kp fun v2 w =>
  S P (vbin .neq 3 false false v1 v2) w Kp fun v3 w =>
  C v3 (K (Value.bool false) w)
  (∃ I μ, LoopE I μ (fun K5 ε4 w =>
  S P (vblt .len #[22] 3 #[false] #[(ε4 0)]) w Kp fun v6 w =>
  S P (vbin .lss 3 false false (ε4 5) v6) w Kp fun v7 w =>
  C v7 (∃ H8 : World → Prop, H8 (drewW w) ∧
  Fl P H8 (vixA 22 (ε4 0) (ε4 5)) fun v9 =>
  Fl P H8 (vload 41 v9) fun v10 =>
  Fl P H8 (vixA 22 (ε4 1) (ε4 5)) fun v11 =>
  Fl P H8 (vload 41 v11) fun v12 =>
  Fl P H8 (vbin .neq 41 false false v10 v12) fun v13 =>
  C v13 (K (Value.bool false) (drewW w))
  (S P (vbin .add 3 false true (ε4 5) (Value.int IntKind.i64 1)) (drewW w) Kp fun v14 w =>
  K5 (upd 0 (ε4 0) (upd 1 (ε4 1) (upd 4 (ε4 4) (upd 5 v14 E0)))) w))
  (K (Value.bool true) w)) (upd 0 x0 (upd 1 x1 (upd 4 (Value.bool false) (upd 5 (Value.int IntKind.i64 0) E0)))) w)
theorem F35_eq (x0 x1 : Value) (w : World) (Kp : KP) (K : K0) : F35 x0 x1 w Kp K = wpE P [0, 1, 4, 5] (bodyOf Tryz.f35) (postE P Tryz.f35.results.toList Kp K) (List.range 2 ++ [0, 1, 4, 5]) (ε0 #[x0, x1]) w := by kernel_rfl
theorem F35_calls {x0 x1 : Value} {w : World} {Kp : KP} {K : K0} (h : F35 x0 x1 w Kp K) : Calls P 35 #[x0, x1] w (EndsS Kp K) :=
  calls_of follows [0, 1, 4, 5] Tryz.func35 (by kernel_rfl) (by kernel_rfl) (by kernel_rfl) (F35_eq x0 x1 w Kp K ▸ h)

/-- wisp/wispref05.SameReturn -/
def F46 (x0 x1 : Value) (w : World) (Kp : KP) (K : K0) : Prop :=
  S P (vblt .len #[23] 3 #[false] #[x0]) w Kp fun v1 w =>
  S P (vblt .len #[23] 3 #[false] #[x1]) w Kp fun v2 w =>
  S P (vbin .neq 3 false false v1 v2) w Kp fun v3 w =>
  C v3 (K (Value.bool false) w)
  (∃ I μ, LoopE I μ (fun K5 ε4 w =>
  S P (vblt .len #[23] 3 #[false] #[(ε4 0)]) w Kp fun v6 w =>
  S P (vbin .lss 3 false false (ε4 5) v6) w Kp fun v7 w =>
  C v7 (∃ H8 : World → Prop, H8 (drewW w) ∧
  Fl P H8 (vixA 23 (ε4 0) (ε4 5)) fun v9 =>
  Fl P H8 (vload 75 v9) fun v10 =>
  Fl P H8 (vixA 23 (ε4 1) (ε4 5)) fun v11 =>
  Fl P H8 (vload 75 v11) fun v12 =>
  Fl P H8 (vbin .neq 75 false false v10 v12) fun v13 =>
  C v13 (K (Value.bool false) (drewW w))
  (S P (vbin .add 3 false true (ε4 5) (Value.int IntKind.i64 1)) (drewW w) Kp fun v14 w =>
  K5 (upd 0 (ε4 0) (upd 1 (ε4 1) (upd 4 (ε4 4) (upd 5 v14 E0)))) w))
  (K (Value.bool true) w)) (upd 0 x0 (upd 1 x1 (upd 4 (Value.bool false) (upd 5 (Value.int IntKind.i64 0) E0)))) w)
theorem F46_eq (x0 x1 : Value) (w : World) (Kp : KP) (K : K0) : F46 x0 x1 w Kp K = wpE P [0, 1, 4, 5] (bodyOf Tryz.f46) (postE P Tryz.f46.results.toList Kp K) (List.range 2 ++ [0, 1, 4, 5]) (ε0 #[x0, x1]) w := by kernel_rfl
theorem F46_calls {x0 x1 : Value} {w : World} {Kp : KP} {K : K0} (h : F46 x0 x1 w Kp K) : Calls P 46 #[x0, x1] w (EndsS Kp K) :=
  calls_of follows [0, 1, 4, 5] Tryz.func46 (by kernel_rfl) (by kernel_rfl) (by kernel_rfl) (F46_eq x0 x1 w Kp K ▸ h)

/-- (*wisp/wispref05.Data).Push -/
def F27 (x0 x1 : Value) (w : World) (Kp : KP) (K : K0) : Prop :=
  S P (vnil x0) w Kp fun v1 w =>
  S P (vfield 85 v1 0) w Kp fun v2 w =>
  S P (vload 22 v2) w Kp fun v3 w =>
  S P (vblt .len #[22] 3 #[false] #[v3]) w Kp fun v4 w =>
  S P (vblt .len #[22] 3 #[false] #[x1]) w Kp fun v5 w =>
  S P (vbin .add 3 false false v4 v5) w Kp fun v6 w =>
  S P (vbin .gtr 3 false true v6 (Value.int IntKind.i64 256)) w Kp fun v7 w =>
  C v7 (K (Value.int IntKind.i64 2) w)
  (S P (vbuildS 22 0 #[]) w Kp fun v8 w =>
  S P (vnil x0) w Kp fun v9 w =>
  S P (vfield 85 v9 0) w Kp fun v10 w =>
  S P (vload 22 v10) w Kp fun v11 w =>
  S P (vblt .append #[22, 22] 22 #[false, false] #[v8, v11]) w Kp fun v12 w =>
  S P (vblt .append #[22, 22] 22 #[false, false] #[v12, x1]) w Kp fun v13 w =>
  S P (vnil x0) w Kp fun v14 w =>
  S P (vfield 85 v14 0) w Kp fun v15 w =>
  S P (vstore 22 v15 v13) w Kp fun v16 w =>
  K (Value.int IntKind.i64 0) w)
theorem F27_eq (x0 x1 : Value) (w : World) (Kp : KP) (K : K0) : F27 x0 x1 w Kp K = wpE P [0, 1, 4] (bodyOf Tryz.f27) (postE P Tryz.f27.results.toList Kp K) (List.range 2 ++ [0, 1, 4]) (ε0 #[x0, x1]) w := by kernel_rfl
theorem F27_calls {x0 x1 : Value} {w : World} {Kp : KP} {K : K0} (h : F27 x0 x1 w Kp K) : Calls P 27 #[x0, x1] w (EndsS Kp K) :=
  calls_of follows [0, 1, 4] Tryz.func27 (by kernel_rfl) (by kernel_rfl) (by kernel_rfl) (F27_eq x0 x1 w Kp K ▸ h)

/-- (*wisp/wispref05.Return).Push -/
def F29 (x0 x1 : Value) (w : World) (Kp : KP) (K : K0) : Prop :=
  S P (vnil x0) w Kp fun v1 w =>
  S P (vfield 87 v1 0) w Kp fun v2 w =>
  S P (vload 23 v2) w Kp fun v3 w =>
  S P (vblt .len #[23] 3 #[false] #[v3]) w Kp fun v4 w =>
  S P (vblt .len #[23] 3 #[false] #[x1]) w Kp fun v5 w =>
  S P (vbin .add 3 false false v4 v5) w Kp fun v6 w =>
  S P (vbin .gtr 3 false true v6 (Value.int IntKind.i64 128)) w Kp fun v7 w =>
  C v7 (K (Value.int IntKind.i64 4) w)
  (S P (vbuildS 23 0 #[]) w Kp fun v8 w =>
  S P (vnil x0) w Kp fun v9 w =>
  S P (vfield 87 v9 0) w Kp fun v10 w =>
  S P (vload 23 v10) w Kp fun v11 w =>
  S P (vblt .append #[23, 23] 23 #[false, false] #[v8, v11]) w Kp fun v12 w =>
  S P (vblt .append #[23, 23] 23 #[false, false] #[v12, x1]) w Kp fun v13 w =>
  S P (vnil x0) w Kp fun v14 w =>
  S P (vfield 87 v14 0) w Kp fun v15 w =>
  S P (vstore 23 v15 v13) w Kp fun v16 w =>
  K (Value.int IntKind.i64 0) w)
theorem F29_eq (x0 x1 : Value) (w : World) (Kp : KP) (K : K0) : F29 x0 x1 w Kp K = wpE P [0, 1, 4] (bodyOf Tryz.f29) (postE P Tryz.f29.results.toList Kp K) (List.range 2 ++ [0, 1, 4]) (ε0 #[x0, x1]) w := by kernel_rfl
theorem F29_calls {x0 x1 : Value} {w : World} {Kp : KP} {K : K0} (h : F29 x0 x1 w Kp K) : Calls P 29 #[x0, x1] w (EndsS Kp K) :=
  calls_of follows [0, 1, 4] Tryz.func29 (by kernel_rfl) (by kernel_rfl) (by kernel_rfl) (F29_eq x0 x1 w Kp K ▸ h)

/-- (*wisp/wispref05.Data).Need -/
def F87 (x0 x1 x2 : Value) (w : World) (Kp : KP) (K : K0) : Prop :=
  S P (vblt .max #[3, 3] 3 #[false, true] #[x1, (Value.int IntKind.i64 0)]) w Kp fun v1 w =>
  S P (vblt .max #[3, 3] 3 #[false, true] #[x2, (Value.int IntKind.i64 0)]) w Kp fun v2 w =>
  S P (vnil x0) w Kp fun v3 w =>
  S P (vfield 85 v3 0) w Kp fun v4 w =>
  S P (vload 22 v4) w Kp fun v5 w =>
  S P (vblt .len #[22] 3 #[false] #[v5]) w Kp fun v6 w =>
  S P (vbin .lss 3 false false v6 v1) w Kp fun v7 w =>
  C v7 (K (Value.int IntKind.i64 1) w)
  (S P (vbin .gtr 3 false true v2 (Value.int IntKind.i64 256)) w Kp fun v8 w =>
  GS v8 false P (vmove x0) w Kp fun v9 w =>
  GS v8 false P (vnil v9) w Kp fun v10 w =>
  GS v8 false P (vfield 85 v10 0) w Kp fun v11 w =>
  GS v8 false P (vload 22 v11) w Kp fun v12 w =>
  GS v8 false P (vblt .len #[22] 3 #[false] #[v12]) w Kp fun v13 w =>
  GS v8 false P (vmove v1) w Kp fun v14 w =>
  GS v8 false P (vbin .sub 3 false false v13 v14) w Kp fun v15 w =>
  GS v8 false P (vmove v2) w Kp fun v16 w =>
  GS v8 false P (vbin .add 3 false false v15 v16) w Kp fun v17 w =>
  GS v8 false P (vbin .gtr 3 false true v17 (Value.int IntKind.i64 256)) w Kp fun v18 w =>
  S P (vpick v8 (Value.bool true) v18) w Kp fun v19 w =>
  C v19 (K (Value.int IntKind.i64 2) w)
  (K (Value.int IntKind.i64 0) w))
theorem F87_eq (x0 x1 x2 : Value) (w : World) (Kp : KP) (K : K0) : F87 x0 x1 x2 w Kp K = wpE P [6] (bodyOf Tryz.f87) (postE P Tryz.f87.results.toList Kp K) (List.range 3 ++ [6]) (ε0 #[x0, x1, x2]) w := by kernel_rfl
theorem F87_calls {x0 x1 x2 : Value} {w : World} {Kp : KP} {K : K0} (h : F87 x0 x1 x2 w Kp K) : Calls P 87 #[x0, x1, x2] w (EndsS Kp K) :=
  calls_of follows [6] Tryz.func87 (by kernel_rfl) (by kernel_rfl) (by kernel_rfl) (F87_eq x0 x1 x2 w Kp K ▸ h)

/-- (*wisp/wispref05.Return).At -/
def F117 (x0 x1 x2 : Value) (w : World) (Kp : KP) (K : K0) : Prop :=
  S P (vbin .lss 3 false true x1 (Value.int IntKind.i64 0)) w Kp fun v1 w =>
  GS v1 false P (vmove x1) w Kp fun v2 w =>
  GS v1 false P (vmove x0) w Kp fun v3 w =>
  GS v1 false P (vnil v3) w Kp fun v4 w =>
  GS v1 false P (vfield 87 v4 0) w Kp fun v5 w =>
  GS v1 false P (vload 23 v5) w Kp fun v6 w =>
  GS v1 false P (vblt .len #[23] 3 #[false] #[v6]) w Kp fun v7 w =>
  GS v1 false P (vbin .geq 3 false false v2 v7) w Kp fun v8 w =>
  S P (vpick v1 (Value.bool true) v8) w Kp fun v9 w =>
  C v9 (K (Value.tuple #[(Value.int IntKind.u16 0), (Value.int IntKind.i64 3)]) w)
  (∃ H10 : World → Prop, H10 (drewW w) ∧
  Fl P H10 (vnil x0) fun v11 =>
  Fl P H10 (vfield 87 v11 0) fun v12 =>
  Fl P H10 (vload 23 v12) fun v13 =>
  Fl P H10 (vnil x0) fun v14 =>
  Fl P H10 (vfield 87 v14 0) fun v15 =>
  Fl P H10 (vload 23 v15) fun v16 =>
  Fl P H10 (vblt .len #[23] 3 #[false] #[v16]) fun v17 =>
  Fl P H10 (vbin .sub 3 false true v17 (Value.int IntKind.i64 1)) fun v18 =>
  Fl P H10 (vbin .sub 3 false false v18 x1) fun v19 =>
  Fl P H10 (vixA 23 v13 v19) fun v20 =>
  Fl P H10 (vload 75 v20) fun v21 =>
  S P (valloc 75) (drewW w) Kp fun v22 w =>
  H10 w ∧ S P (vstore 75 v22 v21) w Kp fun v23 w =>
  S P (vfield 75 v22 0) w Kp fun v24 w =>
  S P (vload 3 v24) w Kp fun v25 w =>
  S P (vbin .neq 3 false false v25 x2) w Kp fun v26 w =>
  C v26 (K (Value.tuple #[(Value.int IntKind.u16 0), (Value.int IntKind.i64 5)]) w)
  (S P (vfield 75 v22 1) w Kp fun v27 w =>
  S P (vload 41 v27) w Kp fun v28 w =>
  K (Value.tuple #[v28, (Value.int IntKind.i64 0)]) w))
theorem F117_eq (x0 x1 x2 : Value) (w : World) (Kp : KP) (K : K0) : F117 x0 x1 x2 w Kp K = wpE P [0, 1, 2, 6, 7, 8] (bodyOf Tryz.f117) (postE P Tryz.f117.results.toList Kp K) (List.range 3 ++ [0, 1, 2, 6, 7, 8]) (ε0 #[x0, x1, x2]) w := by kernel_rfl
theorem F117_calls {x0 x1 x2 : Value} {w : World} {Kp : KP} {K : K0} (h : F117 x0 x1 x2 w Kp K) : Calls P 117 #[x0, x1, x2] w (EndsS Kp K) :=
  calls_of follows [0, 1, 2, 6, 7, 8] Tryz.func117 (by kernel_rfl) (by kernel_rfl) (by kernel_rfl) (F117_eq x0 x1 x2 w Kp K ▸ h)

/-- (*wisp/wispref05.Return).Pop -/
def F92 (x0 x1 : Value) (w : World) (Kp : KP) (K : K0) : Prop :=
  S P (vcall (Value.func (Fn.func 117) #[] #[]) #[x0, (Value.int IntKind.i64 0), x1]) w Kp fun v1 w =>
  S P (vext v1 0) w Kp fun v2 w =>
  S P (vext v1 1) w Kp fun v3 w =>
  J (fun ε4 w => K (Value.tuple #[(ε4 6), (ε4 7)]) w) fun k5 =>
  S P (vbin .eql 3 false true v3 (Value.int IntKind.i64 0)) w Kp fun v6 w =>
  C v6 (∃ H7 : World → Prop, H7 (drewW w) ∧
  Fl P H7 (vnil x0) fun v8 =>
  Fl P H7 (vfield 87 v8 0) fun v9 =>
  Fl P H7 (vload 23 v9) fun v10 =>
  Fl P H7 (vnil x0) fun v11 =>
  Fl P H7 (vfield 87 v11 0) fun v12 =>
  Fl P H7 (vload 23 v12) fun v13 =>
  Fl P H7 (vblt .len #[23] 3 #[false] #[v13]) fun v14 =>
  Fl P H7 (vbin .sub 3 false true v14 (Value.int IntKind.i64 1)) fun v15 =>
  Fl P H7 (vslice 23 v10 none (some v15) none) fun v16 =>
  Fl P H7 (vnil x0) fun v17 =>
  Fl P H7 (vfield 87 v17 0) fun v18 =>
  S P (vstore 23 v18 v16) (drewW w) Kp fun v19 w =>
  k5 (upd 4 (Value.int IntKind.u16 0) (upd 5 (Value.int IntKind.i64 0) (upd 6 v2 (upd 7 v3 E0)))) w)
  (k5 (upd 4 (Value.int IntKind.u16 0) (upd 5 (Value.int IntKind.i64 0) (upd 6 v2 (upd 7 v3 E0)))) w)
theorem F92_eq (x0 x1 : Value) (w : World) (Kp : KP) (K : K0) : F92 x0 x1 w Kp K = wpE P [4, 5, 6, 7] (bodyOf Tryz.f92) (postE P Tryz.f92.results.toList Kp K) (List.range 2 ++ [4, 5, 6, 7]) (ε0 #[x0, x1]) w := by kernel_rfl
theorem F92_calls {x0 x1 : Value} {w : World} {Kp : KP} {K : K0} (h : F92 x0 x1 w Kp K) : Calls P 92 #[x0, x1] w (EndsS Kp K) :=
  calls_of follows [4, 5, 6, 7] Tryz.func92 (by kernel_rfl) (by kernel_rfl) (by kernel_rfl) (F92_eq x0 x1 w Kp K ▸ h)

end Go.Proofs.YtebmnfmiphbgdaaGreatDoor
