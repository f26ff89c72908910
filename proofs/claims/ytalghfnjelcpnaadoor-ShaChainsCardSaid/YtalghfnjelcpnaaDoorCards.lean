/-
  DERIVED. GIVEN WITH THE SEED: THE CARDS: each row of YtalghfnjelcpnaaDoorRows.lean that lists a variable, with what it lists TIED to the program's text (the seventh form; the later family's looks); each row that meets fmt, with fmt's text TOLD by the authors' own Lean function (tested against real Go, not proved from fmt's source: count such statements apart). THE CARD IS WHAT COUNTS. Prove the row's statement (the work); the ties are given (YtalghfnjelcpnaaDoorTie.lean); close each card by the builder's one call (the guide's Derived/Test/ToyasCard.lean, 'card_holds'). Laid BY PROGRAM, IN A SANDBOX (cutbox-door.mjs). By AI agents, Wed Nov 11 2026. No macro, syntax, notation, axiom, sorry.
-/
import Derived.Test.YtalghfnjelcpnaaDoorRows
import GoSem.ClaimSeven
namespace Go.Proofs.YtalghfnjelcpnaaDoor
namespace Rows

/-- THE TIED CARD OF 'incognitolaw03.ShaSums'. -/
def shaSumsCard : Claim7 := { stood := { row := shaSumsRow, standIns := [], harness := (true, "c68b283897877bfc0ff10dc466d3e43ead5496ac0e6fbd3b8c1c7c254a158ada"), looks := false }, kinds := [], alts := [], laidByText := true, laidKinds := [.data], laidTests := true, laidLooks := .later }
def ShaSumsCardSaid : Prop := Claim7.holds Tryd.pinned (.plain (OpenSpec.ofChange shaSumsSpec)) shaSumsCard

/-- THE TIED CARD OF 'incognitolaw03.ShaTurns'. -/
def shaTurnsCard : Claim7 := { stood := { row := shaTurnsRow, standIns := [], harness := (true, "c68b283897877bfc0ff10dc466d3e43ead5496ac0e6fbd3b8c1c7c254a158ada"), looks := false }, kinds := [], alts := [], laidByText := true, laidKinds := [.data], laidTests := true, laidLooks := .later }
def ShaTurnsCardSaid : Prop := Claim7.holds Tryd.pinned (.plain (OpenSpec.ofChange shaTurnsSpec)) shaTurnsCard

/-- THE TIED CARD OF 'incognitolaw03.ShaPads'. -/
def shaPadsCard : Claim7 := { stood := { row := shaPadsRow, standIns := [], harness := (true, "c68b283897877bfc0ff10dc466d3e43ead5496ac0e6fbd3b8c1c7c254a158ada"), looks := false }, kinds := [], alts := [], laidByText := true, laidKinds := [.data], laidTests := true, laidLooks := .later }
def ShaPadsCardSaid : Prop := Claim7.holds Tryd.pinned (.plain (OpenSpec.ofChange shaPadsSpec)) shaPadsCard

/-- THE TIED CARD OF 'incognitolaw03.ShaParts'. -/
def shaPartsCard : Claim7 := { stood := { row := shaPartsRow, standIns := [], harness := (true, "c68b283897877bfc0ff10dc466d3e43ead5496ac0e6fbd3b8c1c7c254a158ada"), looks := false }, kinds := [], alts := [], laidByText := true, laidKinds := [.data], laidTests := true, laidLooks := .later }
def ShaPartsCardSaid : Prop := Claim7.holds Tryd.pinned (.plain (OpenSpec.ofChange shaPartsSpec)) shaPartsCard

/-- THE TIED CARD OF 'incognitolaw03.ShaChains'. -/
def shaChainsCard : Claim7 := { stood := { row := shaChainsRow, standIns := [], harness := (true, "c68b283897877bfc0ff10dc466d3e43ead5496ac0e6fbd3b8c1c7c254a158ada"), looks := false }, kinds := [], alts := [], laidByText := true, laidKinds := [.data], laidTests := true, laidLooks := .later }
def ShaChainsCardSaid : Prop := Claim7.holds Tryd.pinned (.plain (OpenSpec.ofChange shaChainsSpec)) shaChainsCard

/-- THE TIED CARD OF 'incognitolaw03.ShaWrites'. -/
def shaWritesCard : Claim7 := { stood := { row := shaWritesRow, standIns := [], harness := (true, "c68b283897877bfc0ff10dc466d3e43ead5496ac0e6fbd3b8c1c7c254a158ada"), looks := false }, kinds := [], alts := [], laidByText := true, laidKinds := [.data], laidTests := true, laidLooks := .later }
def ShaWritesCardSaid : Prop := Claim7.holds Tryd.pinned (.plain (OpenSpec.ofChange shaWritesSpec)) shaWritesCard

/-- THE TIED CARD OF 'incognitolaw03.ShaRoots'. -/
def shaRootsCard : Claim7 := { stood := { row := shaRootsRow, standIns := [], harness := (true, "c68b283897877bfc0ff10dc466d3e43ead5496ac0e6fbd3b8c1c7c254a158ada"), looks := false }, kinds := [], alts := [], laidByText := true, laidKinds := [.data], laidTests := true, laidLooks := .later }
def ShaRootsCardSaid : Prop := Claim7.holds Tryd.pinned (.plain (OpenSpec.ofChange shaRootsSpec)) shaRootsCard

/-- THE TIED CARD OF 'incognitolaw04.MacSums'. -/
def macSumsCard : Claim7 := { stood := { row := macSumsRow, standIns := [], harness := (true, "c68b283897877bfc0ff10dc466d3e43ead5496ac0e6fbd3b8c1c7c254a158ada"), looks := false }, kinds := [], alts := [], laidByText := true, laidKinds := [.data], laidTests := true, laidLooks := .later }
def MacSumsCardSaid : Prop := Claim7.holds Tryd.pinned (.plain (OpenSpec.ofChange macSumsSpec)) macSumsCard

/-- THE TIED CARD OF 'incognitolaw04.MacBlocks'. -/
def macBlocksCard : Claim7 := { stood := { row := macBlocksRow, standIns := [], harness := (true, "c68b283897877bfc0ff10dc466d3e43ead5496ac0e6fbd3b8c1c7c254a158ada"), looks := false }, kinds := [], alts := [], laidByText := true, laidKinds := [.data], laidTests := true, laidLooks := .later }
def MacBlocksCardSaid : Prop := Claim7.holds Tryd.pinned (.plain (OpenSpec.ofChange macBlocksSpec)) macBlocksCard

/-- THE TIED CARD OF 'incognitolaw04.MacParts'. -/
def macPartsCard : Claim7 := { stood := { row := macPartsRow, standIns := [], harness := (true, "c68b283897877bfc0ff10dc466d3e43ead5496ac0e6fbd3b8c1c7c254a158ada"), looks := false }, kinds := [], alts := [], laidByText := true, laidKinds := [.data], laidTests := true, laidLooks := .later }
def MacPartsCardSaid : Prop := Claim7.holds Tryd.pinned (.plain (OpenSpec.ofChange macPartsSpec)) macPartsCard

/-- THE TIED CARD OF 'incognitolaw04.MacWrites'. -/
def macWritesCard : Claim7 := { stood := { row := macWritesRow, standIns := [], harness := (true, "c68b283897877bfc0ff10dc466d3e43ead5496ac0e6fbd3b8c1c7c254a158ada"), looks := false }, kinds := [], alts := [], laidByText := true, laidKinds := [.data], laidTests := true, laidLooks := .later }
def MacWritesCardSaid : Prop := Claim7.holds Tryd.pinned (.plain (OpenSpec.ofChange macWritesSpec)) macWritesCard

/-- THE TIED CARD OF 'incognitolaw04.MacSame'. -/
def macSameCard : Claim7 := { stood := { row := macSameRow, standIns := [], harness := (true, "c68b283897877bfc0ff10dc466d3e43ead5496ac0e6fbd3b8c1c7c254a158ada"), looks := false }, kinds := [], alts := [], laidByText := true, laidKinds := [.data], laidTests := true, laidLooks := .later }
def MacSameCardSaid : Prop := Claim7.holds Tryd.pinned (.plain (OpenSpec.ofChange macSameSpec)) macSameCard

/-- THE TIED CARD OF 'incognitolaw05.TagOf'. -/
def tagOfCard : Claim7 := { stood := { row := tagOfRow, standIns := [], harness := (true, "c68b283897877bfc0ff10dc466d3e43ead5496ac0e6fbd3b8c1c7c254a158ada"), looks := false }, kinds := [], alts := [], laidByText := true, laidKinds := [.data], laidTests := true, laidLooks := .later }
def TagOfCardSaid : Prop := Claim7.holds Tryd.pinned (.plain (OpenSpec.ofChange tagOfSpec)) tagOfCard

/-- THE TIED CARD OF 'incognitolaw05.TagBegins'. -/
def tagBeginsCard : Claim7 := { stood := { row := tagBeginsRow, standIns := [], harness := (true, "c68b283897877bfc0ff10dc466d3e43ead5496ac0e6fbd3b8c1c7c254a158ada"), looks := false }, kinds := [], alts := [], laidByText := true, laidKinds := [.data], laidTests := true, laidLooks := .later }
def TagBeginsCardSaid : Prop := Claim7.holds Tryd.pinned (.plain (OpenSpec.ofChange tagBeginsSpec)) tagBeginsCard

/-- THE TIED CARD OF 'incognitolaw05.TagApart'. -/
def tagApartCard : Claim7 := { stood := { row := tagApartRow, standIns := [], harness := (true, "c68b283897877bfc0ff10dc466d3e43ead5496ac0e6fbd3b8c1c7c254a158ada"), looks := false }, kinds := [], alts := [], laidByText := true, laidKinds := [.data], laidTests := true, laidLooks := .later }
def TagApartCardSaid : Prop := Claim7.holds Tryd.pinned (.plain (OpenSpec.ofChange tagApartSpec)) tagApartCard

/-- THE TIED CARD OF 'incognitolaw05.TagFrames'. -/
def tagFramesCard : Claim7 := { stood := { row := tagFramesRow, standIns := [], harness := (true, "c68b283897877bfc0ff10dc466d3e43ead5496ac0e6fbd3b8c1c7c254a158ada"), looks := false }, kinds := [], alts := [], laidByText := true, laidKinds := [.data], laidTests := true, laidLooks := .later }
def TagFramesCardSaid : Prop := Claim7.holds Tryd.pinned (.plain (OpenSpec.ofChange tagFramesSpec)) tagFramesCard

/-- THE TIED CARD OF 'incognitolaw05.TagParts'. -/
def tagPartsCard : Claim7 := { stood := { row := tagPartsRow, standIns := [], harness := (true, "c68b283897877bfc0ff10dc466d3e43ead5496ac0e6fbd3b8c1c7c254a158ada"), looks := false }, kinds := [], alts := [], laidByText := true, laidKinds := [.data], laidTests := true, laidLooks := .later }
def TagPartsCardSaid : Prop := Claim7.holds Tryd.pinned (.plain (OpenSpec.ofChange tagPartsSpec)) tagPartsCard

/-- THE SECOND FORM's CARD OF 'incognitolaw03.ShaSums'. -/
def shaSumsUptoCard : Claim7 := { stood := { row := shaSumsUptoRow, standIns := [], harness := (true, "c68b283897877bfc0ff10dc466d3e43ead5496ac0e6fbd3b8c1c7c254a158ada"), looks := false }, kinds := [], alts := [], laidByText := true, laidKinds := [.data], laidTests := true, laidLooks := .later }
def ShaSumsUptoCardSaid : Prop := Claim7.holds Tryd.pinned (.plain (OpenSpec.upto shaSumsSpec)) shaSumsUptoCard

/-- THE SECOND FORM's CARD OF 'incognitolaw03.ShaTurns'. -/
def shaTurnsUptoCard : Claim7 := { stood := { row := shaTurnsUptoRow, standIns := [], harness := (true, "c68b283897877bfc0ff10dc466d3e43ead5496ac0e6fbd3b8c1c7c254a158ada"), looks := false }, kinds := [], alts := [], laidByText := true, laidKinds := [.data], laidTests := true, laidLooks := .later }
def ShaTurnsUptoCardSaid : Prop := Claim7.holds Tryd.pinned (.plain (OpenSpec.upto shaTurnsSpec)) shaTurnsUptoCard

/-- THE SECOND FORM's CARD OF 'incognitolaw03.ShaPads'. -/
def shaPadsUptoCard : Claim7 := { stood := { row := shaPadsUptoRow, standIns := [], harness := (true, "c68b283897877bfc0ff10dc466d3e43ead5496ac0e6fbd3b8c1c7c254a158ada"), looks := false }, kinds := [], alts := [], laidByText := true, laidKinds := [.data], laidTests := true, laidLooks := .later }
def ShaPadsUptoCardSaid : Prop := Claim7.holds Tryd.pinned (.plain (OpenSpec.upto shaPadsSpec)) shaPadsUptoCard

/-- THE SECOND FORM's CARD OF 'incognitolaw03.ShaParts'. -/
def shaPartsUptoCard : Claim7 := { stood := { row := shaPartsUptoRow, standIns := [], harness := (true, "c68b283897877bfc0ff10dc466d3e43ead5496ac0e6fbd3b8c1c7c254a158ada"), looks := false }, kinds := [], alts := [], laidByText := true, laidKinds := [.data], laidTests := true, laidLooks := .later }
def ShaPartsUptoCardSaid : Prop := Claim7.holds Tryd.pinned (.plain (OpenSpec.upto shaPartsSpec)) shaPartsUptoCard

/-- THE SECOND FORM's CARD OF 'incognitolaw03.ShaChains'. -/
def shaChainsUptoCard : Claim7 := { stood := { row := shaChainsUptoRow, standIns := [], harness := (true, "c68b283897877bfc0ff10dc466d3e43ead5496ac0e6fbd3b8c1c7c254a158ada"), looks := false }, kinds := [], alts := [], laidByText := true, laidKinds := [.data], laidTests := true, laidLooks := .later }
def ShaChainsUptoCardSaid : Prop := Claim7.holds Tryd.pinned (.plain (OpenSpec.upto shaChainsSpec)) shaChainsUptoCard

/-- THE SECOND FORM's CARD OF 'incognitolaw03.ShaWrites'. -/
def shaWritesUptoCard : Claim7 := { stood := { row := shaWritesUptoRow, standIns := [], harness := (true, "c68b283897877bfc0ff10dc466d3e43ead5496ac0e6fbd3b8c1c7c254a158ada"), looks := false }, kinds := [], alts := [], laidByText := true, laidKinds := [.data], laidTests := true, laidLooks := .later }
def ShaWritesUptoCardSaid : Prop := Claim7.holds Tryd.pinned (.plain (OpenSpec.upto shaWritesSpec)) shaWritesUptoCard

/-- THE SECOND FORM's CARD OF 'incognitolaw03.ShaRoots'. -/
def shaRootsUptoCard : Claim7 := { stood := { row := shaRootsUptoRow, standIns := [], harness := (true, "c68b283897877bfc0ff10dc466d3e43ead5496ac0e6fbd3b8c1c7c254a158ada"), looks := false }, kinds := [], alts := [], laidByText := true, laidKinds := [.data], laidTests := true, laidLooks := .later }
def ShaRootsUptoCardSaid : Prop := Claim7.holds Tryd.pinned (.plain (OpenSpec.upto shaRootsSpec)) shaRootsUptoCard

/-- THE SECOND FORM's CARD OF 'incognitolaw04.MacSums'. -/
def macSumsUptoCard : Claim7 := { stood := { row := macSumsUptoRow, standIns := [], harness := (true, "c68b283897877bfc0ff10dc466d3e43ead5496ac0e6fbd3b8c1c7c254a158ada"), looks := false }, kinds := [], alts := [], laidByText := true, laidKinds := [.data], laidTests := true, laidLooks := .later }
def MacSumsUptoCardSaid : Prop := Claim7.holds Tryd.pinned (.plain (OpenSpec.upto macSumsSpec)) macSumsUptoCard

/-- THE SECOND FORM's CARD OF 'incognitolaw04.MacBlocks'. -/
def macBlocksUptoCard : Claim7 := { stood := { row := macBlocksUptoRow, standIns := [], harness := (true, "c68b283897877bfc0ff10dc466d3e43ead5496ac0e6fbd3b8c1c7c254a158ada"), looks := false }, kinds := [], alts := [], laidByText := true, laidKinds := [.data], laidTests := true, laidLooks := .later }
def MacBlocksUptoCardSaid : Prop := Claim7.holds Tryd.pinned (.plain (OpenSpec.upto macBlocksSpec)) macBlocksUptoCard

/-- THE SECOND FORM's CARD OF 'incognitolaw04.MacParts'. -/
def macPartsUptoCard : Claim7 := { stood := { row := macPartsUptoRow, standIns := [], harness := (true, "c68b283897877bfc0ff10dc466d3e43ead5496ac0e6fbd3b8c1c7c254a158ada"), looks := false }, kinds := [], alts := [], laidByText := true, laidKinds := [.data], laidTests := true, laidLooks := .later }
def MacPartsUptoCardSaid : Prop := Claim7.holds Tryd.pinned (.plain (OpenSpec.upto macPartsSpec)) macPartsUptoCard

/-- THE SECOND FORM's CARD OF 'incognitolaw04.MacWrites'. -/
def macWritesUptoCard : Claim7 := { stood := { row := macWritesUptoRow, standIns := [], harness := (true, "c68b283897877bfc0ff10dc466d3e43ead5496ac0e6fbd3b8c1c7c254a158ada"), looks := false }, kinds := [], alts := [], laidByText := true, laidKinds := [.data], laidTests := true, laidLooks := .later }
def MacWritesUptoCardSaid : Prop := Claim7.holds Tryd.pinned (.plain (OpenSpec.upto macWritesSpec)) macWritesUptoCard

/-- THE SECOND FORM's CARD OF 'incognitolaw04.MacSame'. -/
def macSameUptoCard : Claim7 := { stood := { row := macSameUptoRow, standIns := [], harness := (true, "c68b283897877bfc0ff10dc466d3e43ead5496ac0e6fbd3b8c1c7c254a158ada"), looks := false }, kinds := [], alts := [], laidByText := true, laidKinds := [.data], laidTests := true, laidLooks := .later }
def MacSameUptoCardSaid : Prop := Claim7.holds Tryd.pinned (.plain (OpenSpec.upto macSameSpec)) macSameUptoCard

/-- THE SECOND FORM's CARD OF 'incognitolaw05.TagOf'. -/
def tagOfUptoCard : Claim7 := { stood := { row := tagOfUptoRow, standIns := [], harness := (true, "c68b283897877bfc0ff10dc466d3e43ead5496ac0e6fbd3b8c1c7c254a158ada"), looks := false }, kinds := [], alts := [], laidByText := true, laidKinds := [.data], laidTests := true, laidLooks := .later }
def TagOfUptoCardSaid : Prop := Claim7.holds Tryd.pinned (.plain (OpenSpec.upto tagOfSpec)) tagOfUptoCard

/-- THE SECOND FORM's CARD OF 'incognitolaw05.TagBegins'. -/
def tagBeginsUptoCard : Claim7 := { stood := { row := tagBeginsUptoRow, standIns := [], harness := (true, "c68b283897877bfc0ff10dc466d3e43ead5496ac0e6fbd3b8c1c7c254a158ada"), looks := false }, kinds := [], alts := [], laidByText := true, laidKinds := [.data], laidTests := true, laidLooks := .later }
def TagBeginsUptoCardSaid : Prop := Claim7.holds Tryd.pinned (.plain (OpenSpec.upto tagBeginsSpec)) tagBeginsUptoCard

/-- THE SECOND FORM's CARD OF 'incognitolaw05.TagApart'. -/
def tagApartUptoCard : Claim7 := { stood := { row := tagApartUptoRow, standIns := [], harness := (true, "c68b283897877bfc0ff10dc466d3e43ead5496ac0e6fbd3b8c1c7c254a158ada"), looks := false }, kinds := [], alts := [], laidByText := true, laidKinds := [.data], laidTests := true, laidLooks := .later }
def TagApartUptoCardSaid : Prop := Claim7.holds Tryd.pinned (.plain (OpenSpec.upto tagApartSpec)) tagApartUptoCard

/-- THE SECOND FORM's CARD OF 'incognitolaw05.TagFrames'. -/
def tagFramesUptoCard : Claim7 := { stood := { row := tagFramesUptoRow, standIns := [], harness := (true, "c68b283897877bfc0ff10dc466d3e43ead5496ac0e6fbd3b8c1c7c254a158ada"), looks := false }, kinds := [], alts := [], laidByText := true, laidKinds := [.data], laidTests := true, laidLooks := .later }
def TagFramesUptoCardSaid : Prop := Claim7.holds Tryd.pinned (.plain (OpenSpec.upto tagFramesSpec)) tagFramesUptoCard

/-- THE SECOND FORM's CARD OF 'incognitolaw05.TagParts'. -/
def tagPartsUptoCard : Claim7 := { stood := { row := tagPartsUptoRow, standIns := [], harness := (true, "c68b283897877bfc0ff10dc466d3e43ead5496ac0e6fbd3b8c1c7c254a158ada"), looks := false }, kinds := [], alts := [], laidByText := true, laidKinds := [.data], laidTests := true, laidLooks := .later }
def TagPartsUptoCardSaid : Prop := Claim7.holds Tryd.pinned (.plain (OpenSpec.upto tagPartsSpec)) tagPartsUptoCard
end Rows
end Go.Proofs.YtalghfnjelcpnaaDoor
