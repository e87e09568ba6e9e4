/-
  NARROWER THAN 'FOR EVERY INPUT', by the rows' own cells (each row's printed sentence says how): PrimEach: laid · PrimNone: laid · PrimKeeps: laid · PrimPlays: laid.
  DERIVED. THE GIVEN ROWS OF THIS SEAT. 4 by the template 'for every input the law returns true; each argument reads behind the call as it read before'; 0 by the template 'total and deterministic' (their statements: YtebmnfmiphbgdaaGreatDoorTotals.lean).
  GIVEN WITH THE SEED: the statements are not yours to turn. If you find one false, say at which input.
  Laid BY PROGRAM, IN A SANDBOX (cutbox-rows.mjs): the forced cells as the released guide's own fill.sh prints them over the translation 1d33fb5c2ea396b7… (all of the seat's roots in one cut). By AI agents, Wed Nov 11 2026. No macro, syntax, notation, axiom, sorry.
-/
import Derived.Test.YtebmnfmiphbgdaaGreatDoorChecked
import GoSem.Claim
import GoSem.ClaimJoined
import GoSem.ClaimMapViews
import Derived.JoinedTies
import Derived.KernelRfl
namespace Go.Proofs.YtebmnfmiphbgdaaGreatDoor
/- THE CELL 'sum', in the pinned program and in every row, IS THE sha256 OF THE DUMP (.gsa) THAT YtebmnfmiphbgdaaGreatDoorProg.lean LOADS. Nothing in Lean hashes anything: it is a label: what it is worth is what the hold of that sum in a sandbox is worth. -/
noncomputable def Tryz.pinned : Pinned := { name := "ytebmnfmiphbgdaagreatdoor", sum := "1d33fb5c2ea396b754fd37116d6ec3d0f4a95b260abe673c2ce685a16760a0f1", checked := Tryz.checked }
namespace Rows
def none {H : Type} : Left H := { results := [], args := [] }

/- WHAT THE LISTED PACKAGE-LEVEL VARIABLES READ AS WHEN THE CALL BEGINS. Each datum BY PROGRAM (the guide's laid-datum.mjs) off the statement by which the dump's own 'gosem.cut.vars' lays the variable. In a bare row this is a premise. The card (YtebmnfmiphbgdaaGreatDoorCards.lean) ties it to the program's text. -/
def laid_wisp_prim_names {H : Type} : DataW H := .agg [.lit (.string []), .lit (.string []), .lit (.string []), .lit (.string []), .lit (.string []), .lit (.string []), .lit (.string []), .lit (.string []), .lit (.string []), .lit (.string [110, 111, 112]), .lit (.string [121, 105, 101, 108, 100]), .lit (.string [104, 97, 108, 116]), .lit (.string [100, 117, 112]), .lit (.string [100, 114, 111, 112]), .lit (.string [115, 119, 97, 112]), .lit (.string [111, 118, 101, 114]), .lit (.string [114, 111, 116]), .lit (.string [110, 105, 112]), .lit (.string [116, 117, 99, 107]), .lit (.string [50, 100, 117, 112]), .lit (.string [50, 100, 114, 111, 112]), .lit (.string [43]), .lit (.string [45]), .lit (.string [42]), .lit (.string [47]), .lit (.string [109, 111, 100]), .lit (.string [117, 47]), .lit (.string [117, 109, 111, 100]), .lit (.string [110, 101, 103, 97, 116, 101]), .lit (.string [97, 98, 115]), .lit (.string [109, 105, 110]), .lit (.string [109, 97, 120]), .lit (.string [49, 43]), .lit (.string [49, 45]), .lit (.string [50, 42]), .lit (.string [50, 47]), .lit (.string [97, 110, 100]), .lit (.string [111, 114]), .lit (.string [120, 111, 114]), .lit (.string [105, 110, 118, 101, 114, 116]), .lit (.string [108, 115, 104, 105, 102, 116]), .lit (.string [114, 115, 104, 105, 102, 116]), .lit (.string [61]), .lit (.string [60, 62]), .lit (.string [60]), .lit (.string [62]), .lit (.string [117, 60]), .lit (.string [117, 62]), .lit (.string [48, 61]), .lit (.string [48, 60]), .lit (.string [64]), .lit (.string [33]), .lit (.string [99, 64]), .lit (.string [99, 33]), .lit (.string [43, 33]), .lit (.string [62, 114]), .lit (.string [114, 62]), .lit (.string [114, 64]), .lit (.string [105]), .lit (.string [106]), .lit (.string [112, 108, 111, 116]), .lit (.string [112, 97, 100]), .lit (.string [116, 111, 110, 101]), .lit (.string [98, 97, 110, 107])]
def laid_wisp_prim_takes {H : Type} : DataW H := .agg [.lit (.int .u8 0), .lit (.int .u8 0), .lit (.int .u8 0), .lit (.int .u8 0), .lit (.int .u8 0), .lit (.int .u8 1), .lit (.int .u8 2), .lit (.int .u8 0), .lit (.int .u8 0), .lit (.int .u8 0), .lit (.int .u8 0), .lit (.int .u8 0), .lit (.int .u8 1), .lit (.int .u8 1), .lit (.int .u8 2), .lit (.int .u8 2), .lit (.int .u8 3), .lit (.int .u8 2), .lit (.int .u8 2), .lit (.int .u8 2), .lit (.int .u8 2), .lit (.int .u8 2), .lit (.int .u8 2), .lit (.int .u8 2), .lit (.int .u8 2), .lit (.int .u8 2), .lit (.int .u8 2), .lit (.int .u8 2), .lit (.int .u8 1), .lit (.int .u8 1), .lit (.int .u8 2), .lit (.int .u8 2), .lit (.int .u8 1), .lit (.int .u8 1), .lit (.int .u8 1), .lit (.int .u8 1), .lit (.int .u8 2), .lit (.int .u8 2), .lit (.int .u8 2), .lit (.int .u8 1), .lit (.int .u8 2), .lit (.int .u8 2), .lit (.int .u8 2), .lit (.int .u8 2), .lit (.int .u8 2), .lit (.int .u8 2), .lit (.int .u8 2), .lit (.int .u8 2), .lit (.int .u8 1), .lit (.int .u8 1), .lit (.int .u8 1), .lit (.int .u8 2), .lit (.int .u8 1), .lit (.int .u8 2), .lit (.int .u8 2), .lit (.int .u8 1), .lit (.int .u8 0), .lit (.int .u8 0), .lit (.int .u8 0), .lit (.int .u8 0), .lit (.int .u8 3), .lit (.int .u8 0), .lit (.int .u8 2), .lit (.int .u8 1)]
def laid_wisp_prim_leaves {H : Type} : DataW H := .agg [.lit (.int .u8 0), .lit (.int .u8 0), .lit (.int .u8 1), .lit (.int .u8 1), .lit (.int .u8 0), .lit (.int .u8 0), .lit (.int .u8 0), .lit (.int .u8 0), .lit (.int .u8 0), .lit (.int .u8 0), .lit (.int .u8 0), .lit (.int .u8 0), .lit (.int .u8 2), .lit (.int .u8 0), .lit (.int .u8 2), .lit (.int .u8 3), .lit (.int .u8 3), .lit (.int .u8 1), .lit (.int .u8 3), .lit (.int .u8 4), .lit (.int .u8 0), .lit (.int .u8 1), .lit (.int .u8 1), .lit (.int .u8 1), .lit (.int .u8 1), .lit (.int .u8 1), .lit (.int .u8 1), .lit (.int .u8 1), .lit (.int .u8 1), .lit (.int .u8 1), .lit (.int .u8 1), .lit (.int .u8 1), .lit (.int .u8 1), .lit (.int .u8 1), .lit (.int .u8 1), .lit (.int .u8 1), .lit (.int .u8 1), .lit (.int .u8 1), .lit (.int .u8 1), .lit (.int .u8 1), .lit (.int .u8 1), .lit (.int .u8 1), .lit (.int .u8 1), .lit (.int .u8 1), .lit (.int .u8 1), .lit (.int .u8 1), .lit (.int .u8 1), .lit (.int .u8 1), .lit (.int .u8 1), .lit (.int .u8 1), .lit (.int .u8 1), .lit (.int .u8 0), .lit (.int .u8 1), .lit (.int .u8 0), .lit (.int .u8 0), .lit (.int .u8 0), .lit (.int .u8 1), .lit (.int .u8 1), .lit (.int .u8 1), .lit (.int .u8 1), .lit (.int .u8 0), .lit (.int .u8 1), .lit (.int .u8 0), .lit (.int .u8 0)]
def laid_wisp_prim_costs {H : Type} : DataW H := .agg [.lit (.int .u8 0), .lit (.int .u8 2), .lit (.int .u8 2), .lit (.int .u8 2), .lit (.int .u8 2), .lit (.int .u8 2), .lit (.int .u8 3), .lit (.int .u8 3), .lit (.int .u8 2), .lit (.int .u8 1), .lit (.int .u8 1), .lit (.int .u8 1), .lit (.int .u8 1), .lit (.int .u8 1), .lit (.int .u8 1), .lit (.int .u8 1), .lit (.int .u8 1), .lit (.int .u8 1), .lit (.int .u8 1), .lit (.int .u8 2), .lit (.int .u8 1), .lit (.int .u8 1), .lit (.int .u8 1), .lit (.int .u8 3), .lit (.int .u8 4), .lit (.int .u8 4), .lit (.int .u8 4), .lit (.int .u8 4), .lit (.int .u8 1), .lit (.int .u8 1), .lit (.int .u8 1), .lit (.int .u8 1), .lit (.int .u8 1), .lit (.int .u8 1), .lit (.int .u8 1), .lit (.int .u8 1), .lit (.int .u8 1), .lit (.int .u8 1), .lit (.int .u8 1), .lit (.int .u8 1), .lit (.int .u8 1), .lit (.int .u8 1), .lit (.int .u8 1), .lit (.int .u8 1), .lit (.int .u8 1), .lit (.int .u8 1), .lit (.int .u8 1), .lit (.int .u8 1), .lit (.int .u8 1), .lit (.int .u8 1), .lit (.int .u8 2), .lit (.int .u8 2), .lit (.int .u8 2), .lit (.int .u8 2), .lit (.int .u8 3), .lit (.int .u8 1), .lit (.int .u8 1), .lit (.int .u8 1), .lit (.int .u8 1), .lit (.int .u8 1), .lit (.int .u8 3), .lit (.int .u8 1), .lit (.int .u8 2), .lit (.int .u8 1)]

/-- 'wisplaw06.PrimEach': WHATEVER THE INPUT: true; the input reads as it did. -/
def primEachSpec : ChangeSpec := { name := "primEach", fn := fun _ => fun
  | [d1, d2, d3] => { results := [.lit (.bool true)], args := [d1, d2, d3] }
  | _ => none }
def primEachRow : OpenClaim := { program := "ytebmnfmiphbgdaagreatdoor", sum := "1d33fb5c2ea396b754fd37116d6ec3d0f4a95b260abe673c2ce685a16760a0f1", func := "wisp/wisplaw06.PrimEach", spec := "primEach", unfollowed := true, recurses := true, named := ["wisp/prim.names", "wisp/prim.takes", "wisp/prim.leaves", "wisp/prim.costs"], apart := false, laid := [("wisp/prim.names", laid_wisp_prim_names), ("wisp/prim.takes", laid_wisp_prim_takes), ("wisp/prim.leaves", laid_wisp_prim_leaves), ("wisp/prim.costs", laid_wisp_prim_costs)] }
def PrimEachSaid : Prop := primEachRow.holds Tryz.pinned (OpenSpec.ofChange primEachSpec)

/-- ITS FALSE NEIGHBOUR: 'it returns false'. Refute it at one input. -/
def primEachWrong : ChangeSpec := { name := "primEach", fn := fun _ => fun
  | [d1, d2, d3] => { results := [.lit (.bool false)], args := [d1, d2, d3] }
  | _ => none }
def PrimEachWrongFalsely : Prop := primEachRow.holds Tryz.pinned (OpenSpec.ofChange primEachWrong)

/-- 'wisplaw06.PrimNone': WHATEVER THE INPUT: true; the input reads as it did. -/
def primNoneSpec : ChangeSpec := { name := "primNone", fn := fun _ => fun
  | [d1, d2, d3] => { results := [.lit (.bool true)], args := [d1, d2, d3] }
  | _ => none }
def primNoneRow : OpenClaim := { program := "ytebmnfmiphbgdaagreatdoor", sum := "1d33fb5c2ea396b754fd37116d6ec3d0f4a95b260abe673c2ce685a16760a0f1", func := "wisp/wisplaw06.PrimNone", spec := "primNone", unfollowed := true, recurses := true, named := ["wisp/prim.names", "wisp/prim.takes", "wisp/prim.leaves", "wisp/prim.costs"], apart := false, laid := [("wisp/prim.names", laid_wisp_prim_names), ("wisp/prim.takes", laid_wisp_prim_takes), ("wisp/prim.leaves", laid_wisp_prim_leaves), ("wisp/prim.costs", laid_wisp_prim_costs)] }
def PrimNoneSaid : Prop := primNoneRow.holds Tryz.pinned (OpenSpec.ofChange primNoneSpec)

/-- ITS FALSE NEIGHBOUR: 'it returns false'. Refute it at one input. -/
def primNoneWrong : ChangeSpec := { name := "primNone", fn := fun _ => fun
  | [d1, d2, d3] => { results := [.lit (.bool false)], args := [d1, d2, d3] }
  | _ => none }
def PrimNoneWrongFalsely : Prop := primNoneRow.holds Tryz.pinned (OpenSpec.ofChange primNoneWrong)

/-- 'wisplaw06.PrimKeeps': WHATEVER THE INPUT: true; the input reads as it did. -/
def primKeepsSpec : ChangeSpec := { name := "primKeeps", fn := fun _ => fun
  | [d1, d2, d3, d4] => { results := [.lit (.bool true)], args := [d1, d2, d3, d4] }
  | _ => none }
def primKeepsRow : OpenClaim := { program := "ytebmnfmiphbgdaagreatdoor", sum := "1d33fb5c2ea396b754fd37116d6ec3d0f4a95b260abe673c2ce685a16760a0f1", func := "wisp/wisplaw06.PrimKeeps", spec := "primKeeps", unfollowed := true, recurses := true, named := ["wisp/prim.names", "wisp/prim.takes", "wisp/prim.leaves", "wisp/prim.costs"], apart := false, laid := [("wisp/prim.names", laid_wisp_prim_names), ("wisp/prim.takes", laid_wisp_prim_takes), ("wisp/prim.leaves", laid_wisp_prim_leaves), ("wisp/prim.costs", laid_wisp_prim_costs)] }
def PrimKeepsSaid : Prop := primKeepsRow.holds Tryz.pinned (OpenSpec.ofChange primKeepsSpec)

/-- ITS FALSE NEIGHBOUR: 'it returns false'. Refute it at one input. -/
def primKeepsWrong : ChangeSpec := { name := "primKeeps", fn := fun _ => fun
  | [d1, d2, d3, d4] => { results := [.lit (.bool false)], args := [d1, d2, d3, d4] }
  | _ => none }
def PrimKeepsWrongFalsely : Prop := primKeepsRow.holds Tryz.pinned (OpenSpec.ofChange primKeepsWrong)

/-- 'wisplaw06.PrimPlays': WHATEVER THE INPUT: true; the input reads as it did. -/
def primPlaysSpec : ChangeSpec := { name := "primPlays", fn := fun _ => fun
  | [d] => { results := [.lit (.bool true)], args := [d] }
  | _ => none }
def primPlaysRow : OpenClaim := { program := "ytebmnfmiphbgdaagreatdoor", sum := "1d33fb5c2ea396b754fd37116d6ec3d0f4a95b260abe673c2ce685a16760a0f1", func := "wisp/wisplaw06.PrimPlays", spec := "primPlays", unfollowed := true, recurses := true, named := ["wisp/prim.names", "wisp/prim.takes", "wisp/prim.leaves", "wisp/prim.costs"], apart := false, laid := [("wisp/prim.names", laid_wisp_prim_names), ("wisp/prim.takes", laid_wisp_prim_takes), ("wisp/prim.leaves", laid_wisp_prim_leaves), ("wisp/prim.costs", laid_wisp_prim_costs)] }
def PrimPlaysSaid : Prop := primPlaysRow.holds Tryz.pinned (OpenSpec.ofChange primPlaysSpec)

/-- ITS FALSE NEIGHBOUR: 'it returns false'. Refute it at one input. -/
def primPlaysWrong : ChangeSpec := { name := "primPlays", fn := fun _ => fun
  | [d] => { results := [.lit (.bool false)], args := [d] }
  | _ => none }
def PrimPlaysWrongFalsely : Prop := primPlaysRow.holds Tryz.pinned (OpenSpec.ofChange primPlaysWrong)

/- THE SECOND FORM. 'bulk': how many values and letters a reading holds, each counted each time it is reached (what is shared counts as often as it is met; a slice's spare places count too). A statement '..UptoSaid' is the law's where the arguments, and the package variables that the reading takes, are together of bulk at most 1048576: NARROWER than '..Said'. Prove '..Said' where nothing that the law and all that it calls make is longer than what came in: it says more and counts as full. Else prove '..UptoSaid'. A law counts once. -/
mutual
def uptoBulk {H : Type} : DataW H → Nat
  | .lit (.string bytes) => bytes.length + 1
  | .lit _ => 1
  | .nil => 1
  | .ptr d => uptoBulk d + 1
  | .slice elems spare => uptoBulkAll elems + uptoBulkAll spare + 1
  | .agg parts => uptoBulkAll parts + 1
  | .iface _ d => uptoBulk d + 1
  | .map entries => uptoBulkEntries entries + 1
  | .held _ => 1
def uptoBulkAll {H : Type} : List (DataW H) → Nat
  | [] => 0
  | d :: r => uptoBulk d + uptoBulkAll r
def uptoBulkEntries {H : Type} : List (Lit × DataW H) → Nat
  | [] => 0
  | x :: r => uptoBulkEntry x + uptoBulkEntries r
def uptoBulkEntry {H : Type} : Lit × DataW H → Nat
  | (.string bytes, d) => bytes.length + uptoBulk d + 1
  | (_, d) => uptoBulk d + 1
 end
def uptoSmall : (H : Type) → List (DataW H) → Bool := fun _ ds => decide (uptoBulkAll ds ≤ 1048576)
def OpenSpec.upto (s : _root_.Go.ChangeSpec) : _root_.Go.OpenSpec := { _root_.Go.OpenSpec.ofChange s with cond := some uptoSmall }

/-- 'wisplaw06.PrimEach', WHERE WHAT IT READS IS OF BULK AT MOST 1048576: true; the input reads as it did. -/
def primEachUptoRow : OpenClaim := { program := "ytebmnfmiphbgdaagreatdoor", sum := "1d33fb5c2ea396b754fd37116d6ec3d0f4a95b260abe673c2ce685a16760a0f1", func := "wisp/wisplaw06.PrimEach", spec := "primEach", unfollowed := true, recurses := true, named := ["wisp/prim.names", "wisp/prim.takes", "wisp/prim.leaves", "wisp/prim.costs"], apart := false, laid := [("wisp/prim.names", laid_wisp_prim_names), ("wisp/prim.takes", laid_wisp_prim_takes), ("wisp/prim.leaves", laid_wisp_prim_leaves), ("wisp/prim.costs", laid_wisp_prim_costs)], narrowed := true }
def PrimEachUptoSaid : Prop := primEachUptoRow.holds Tryz.pinned (OpenSpec.upto primEachSpec)

/-- 'wisplaw06.PrimNone', WHERE WHAT IT READS IS OF BULK AT MOST 1048576: true; the input reads as it did. -/
def primNoneUptoRow : OpenClaim := { program := "ytebmnfmiphbgdaagreatdoor", sum := "1d33fb5c2ea396b754fd37116d6ec3d0f4a95b260abe673c2ce685a16760a0f1", func := "wisp/wisplaw06.PrimNone", spec := "primNone", unfollowed := true, recurses := true, named := ["wisp/prim.names", "wisp/prim.takes", "wisp/prim.leaves", "wisp/prim.costs"], apart := false, laid := [("wisp/prim.names", laid_wisp_prim_names), ("wisp/prim.takes", laid_wisp_prim_takes), ("wisp/prim.leaves", laid_wisp_prim_leaves), ("wisp/prim.costs", laid_wisp_prim_costs)], narrowed := true }
def PrimNoneUptoSaid : Prop := primNoneUptoRow.holds Tryz.pinned (OpenSpec.upto primNoneSpec)

/-- 'wisplaw06.PrimKeeps', WHERE WHAT IT READS IS OF BULK AT MOST 1048576: true; the input reads as it did. -/
def primKeepsUptoRow : OpenClaim := { program := "ytebmnfmiphbgdaagreatdoor", sum := "1d33fb5c2ea396b754fd37116d6ec3d0f4a95b260abe673c2ce685a16760a0f1", func := "wisp/wisplaw06.PrimKeeps", spec := "primKeeps", unfollowed := true, recurses := true, named := ["wisp/prim.names", "wisp/prim.takes", "wisp/prim.leaves", "wisp/prim.costs"], apart := false, laid := [("wisp/prim.names", laid_wisp_prim_names), ("wisp/prim.takes", laid_wisp_prim_takes), ("wisp/prim.leaves", laid_wisp_prim_leaves), ("wisp/prim.costs", laid_wisp_prim_costs)], narrowed := true }
def PrimKeepsUptoSaid : Prop := primKeepsUptoRow.holds Tryz.pinned (OpenSpec.upto primKeepsSpec)

/-- 'wisplaw06.PrimPlays', WHERE WHAT IT READS IS OF BULK AT MOST 1048576: true; the input reads as it did. -/
def primPlaysUptoRow : OpenClaim := { program := "ytebmnfmiphbgdaagreatdoor", sum := "1d33fb5c2ea396b754fd37116d6ec3d0f4a95b260abe673c2ce685a16760a0f1", func := "wisp/wisplaw06.PrimPlays", spec := "primPlays", unfollowed := true, recurses := true, named := ["wisp/prim.names", "wisp/prim.takes", "wisp/prim.leaves", "wisp/prim.costs"], apart := false, laid := [("wisp/prim.names", laid_wisp_prim_names), ("wisp/prim.takes", laid_wisp_prim_takes), ("wisp/prim.leaves", laid_wisp_prim_leaves), ("wisp/prim.costs", laid_wisp_prim_costs)], narrowed := true }
def PrimPlaysUptoSaid : Prop := primPlaysUptoRow.holds Tryz.pinned (OpenSpec.upto primPlaysSpec)

end Rows
end Go.Proofs.YtebmnfmiphbgdaaGreatDoor
