/-
  DERIVED. GIVEN WITH THE SEED: THE PROGRAM's TIES (one call each: nine closed facts by the kernel) AND EACH ROW's TIE, after the 31st guide's Derived/Test/Toyas{Tie, Card}.lean. No idea stands in it: it is a product of the set-up. Laid BY PROGRAM, IN A SANDBOX (cutbox-door.mjs). By AI agents, Wed Nov 11 2026. No macro, syntax, notation, axiom, sorry.
-/
import Derived.Test.YtebmnfmiphbgdaaGreatDoorRows
import Derived.LaidByTextLater
import Derived.SevenTiedAt
import Derived.LaidSub
import Derived.LaidOnce
namespace Go.Proofs.YtebmnfmiphbgdaaGreatDoor
open Go
set_option maxRecDepth 100000
theorem seatTie1 : Tryz.prog.laidByTextLater [("wisp/prim.names", Rows.laid_wisp_prim_names), ("wisp/prim.takes", Rows.laid_wisp_prim_takes), ("wisp/prim.leaves", Rows.laid_wisp_prim_leaves), ("wisp/prim.costs", Rows.laid_wisp_prim_costs)] [.data, .data, .data, .data] true :=
  Program.laidByTextLater_by_one 29 8 65 (by kernel_rfl) (by kernel_rfl) (by kernel_rfl) (by kernel_rfl) (by kernel_rfl) (by kernel_rfl) (fun _ _ => by kernel_rfl)
theorem noOwnUnsafe : Tryz.pinned.checked.prog.headLifts.contains "ownunsafe" = false := by kernel_rfl
theorem tie : Tryz.prog.laidByTextLater [("wisp/prim.names", Rows.laid_wisp_prim_names), ("wisp/prim.takes", Rows.laid_wisp_prim_takes), ("wisp/prim.leaves", Rows.laid_wisp_prim_leaves), ("wisp/prim.costs", Rows.laid_wisp_prim_costs)] [.data, .data, .data, .data] true :=
  Program.laidByTextLater.sub seatTie1 ["wisp/prim.names", "wisp/prim.takes", "wisp/prim.leaves", "wisp/prim.costs"] (by kernel_rfl) (by kernel_rfl)
theorem primEach_row_tie : Rows.primEachRow.laidByTextAt .later Tryz.pinned [.data, .data, .data, .data] true :=
  OpenClaim.laidByTextAt_later rfl rfl tie noOwnUnsafe
theorem primNone_row_tie : Rows.primNoneRow.laidByTextAt .later Tryz.pinned [.data, .data, .data, .data] true :=
  OpenClaim.laidByTextAt_later rfl rfl tie noOwnUnsafe
theorem primKeeps_row_tie : Rows.primKeepsRow.laidByTextAt .later Tryz.pinned [.data, .data, .data, .data] true :=
  OpenClaim.laidByTextAt_later rfl rfl tie noOwnUnsafe
theorem primPlays_row_tie : Rows.primPlaysRow.laidByTextAt .later Tryz.pinned [.data, .data, .data, .data] true :=
  OpenClaim.laidByTextAt_later rfl rfl tie noOwnUnsafe
theorem primEachUpto_row_tie : Rows.primEachUptoRow.laidByTextAt .later Tryz.pinned [.data, .data, .data, .data] true :=
  OpenClaim.laidByTextAt_later rfl rfl tie noOwnUnsafe
theorem primNoneUpto_row_tie : Rows.primNoneUptoRow.laidByTextAt .later Tryz.pinned [.data, .data, .data, .data] true :=
  OpenClaim.laidByTextAt_later rfl rfl tie noOwnUnsafe
theorem primKeepsUpto_row_tie : Rows.primKeepsUptoRow.laidByTextAt .later Tryz.pinned [.data, .data, .data, .data] true :=
  OpenClaim.laidByTextAt_later rfl rfl tie noOwnUnsafe
theorem primPlaysUpto_row_tie : Rows.primPlaysUptoRow.laidByTextAt .later Tryz.pinned [.data, .data, .data, .data] true :=
  OpenClaim.laidByTextAt_later rfl rfl tie noOwnUnsafe
end Go.Proofs.YtebmnfmiphbgdaaGreatDoor
