/- What the rows' list gives: the table's cells hold its 64 numbers. No conditions. -/
import Derived.Test.YtalghfnjelcpnaaDoorLawP
import Derived.Test.YtalghfnjelcpnaaDoorSa
import Derived.Lib.LaidTab
namespace Go.Proofs.YtalghfnjelcpnaaDoor
open Go.RowKit
theorem gTab : Tryd.prog.globalNamed "incognito/sha.rounds" = some 0 := by kernel_rfl
theorem gTabType : (Tryd.prog.globals[0]?).map (·.type) = some 84 := by kernel_rfl
theorem cells84 : Tryd.prog.cellsOf 84 = 64 := by kernel_rfl
theorem cells28 : Tryd.prog.cellsOf 28 = 1 := by kernel_rfl
theorem rounds_of_laid {W : World} (h : laidMetH Tryd.prog Rows.shaPadsRow.laid W) : Rounds W := by
  have t : Lib.TabIs Tryd.prog W "incognito/sha.rounds" .u32 rs := Lib.tabIs_of_head (rest := []) gTab gTabType Tryd.underlying84 Tryd.underlying28 cells28 cells84 h
  intro i hi
  exact t.cell gTab i hi
end Go.Proofs.YtalghfnjelcpnaaDoor
