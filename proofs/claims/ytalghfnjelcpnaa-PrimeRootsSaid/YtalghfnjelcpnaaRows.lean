/-
  No cell of these rows narrows 'for every input' (looked for: loops, veiled, ifaces, maps, wideKeys, modest, calm, conditions, laid).
  DERIVED. THE GIVEN ROWS OF THIS SEAT. 9 by the template 'for every input the law returns true; each argument reads behind the call as it read before'; 0 by the template 'total and deterministic' (their statements: YtalghfnjelcpnaaTotals.lean).
  GIVEN WITH THE SEED: the statements are not yours to turn. If you find one false, say at which input.
  Laid BY PROGRAM, IN A SANDBOX (cutbox-rows.mjs): the forced cells as the released guide's own fill.sh prints them over the translation 605182bd160ea7ce… (all of the seat's roots in one cut). By AI agents, Wed Nov 11 2026. No macro, syntax, notation, axiom, sorry.
-/
import Derived.Test.YtalghfnjelcpnaaChecked
import GoSem.Claim
import GoSem.ClaimJoined
import GoSem.ClaimMapViews
import Derived.JoinedTies
import Derived.KernelRfl
namespace Go.Proofs.Ytalghfnjelcpnaa
/- THE CELL 'sum', in the pinned program and in every row, IS THE sha256 OF THE DUMP (.gsa) THAT YtalghfnjelcpnaaProg.lean LOADS. Nothing in Lean hashes anything: it is a label: what it is worth is what the hold of that sum in a sandbox is worth. -/
noncomputable def Try.pinned : Pinned := { name := "ytalghfnjelcpnaa", sum := "605182bd160ea7ceee232dd91230765374f802cbc8baab3443d407e7b714aabc", checked := Try.checked }
namespace Rows
def none {H : Type} : Left H := { results := [], args := [] }

/-- 'incognitolaw01.HexEncodes': WHATEVER THE INPUT: true; the input reads as it did. -/
def hexEncodesSpec : ChangeSpec := { name := "hexEncodes", fn := fun _ => fun
  | [d] => { results := [.lit (.bool true)], args := [d] }
  | _ => none }
def hexEncodesRow : OpenClaim := { program := "ytalghfnjelcpnaa", sum := "605182bd160ea7ceee232dd91230765374f802cbc8baab3443d407e7b714aabc", func := "incognito/incognitolaw01.HexEncodes", spec := "hexEncodes", apart := false }
def HexEncodesSaid : Prop := hexEncodesRow.holds Try.pinned (OpenSpec.ofChange hexEncodesSpec)

/-- ITS FALSE NEIGHBOUR: 'it returns false'. Refute it at one input. -/
def hexEncodesWrong : ChangeSpec := { name := "hexEncodes", fn := fun _ => fun
  | [d] => { results := [.lit (.bool false)], args := [d] }
  | _ => none }
def HexEncodesWrongFalsely : Prop := hexEncodesRow.holds Try.pinned (OpenSpec.ofChange hexEncodesWrong)

/-- 'incognitolaw01.HexDecodes': WHATEVER THE INPUT: true; the input reads as it did. -/
def hexDecodesSpec : ChangeSpec := { name := "hexDecodes", fn := fun _ => fun
  | [d] => { results := [.lit (.bool true)], args := [d] }
  | _ => none }
def hexDecodesRow : OpenClaim := { program := "ytalghfnjelcpnaa", sum := "605182bd160ea7ceee232dd91230765374f802cbc8baab3443d407e7b714aabc", func := "incognito/incognitolaw01.HexDecodes", spec := "hexDecodes", apart := false }
def HexDecodesSaid : Prop := hexDecodesRow.holds Try.pinned (OpenSpec.ofChange hexDecodesSpec)

/-- ITS FALSE NEIGHBOUR: 'it returns false'. Refute it at one input. -/
def hexDecodesWrong : ChangeSpec := { name := "hexDecodes", fn := fun _ => fun
  | [d] => { results := [.lit (.bool false)], args := [d] }
  | _ => none }
def HexDecodesWrongFalsely : Prop := hexDecodesRow.holds Try.pinned (OpenSpec.ofChange hexDecodesWrong)

/-- 'incognitolaw01.HexDigits': WHATEVER THE INPUT: true; the input reads as it did. -/
def hexDigitsSpec : ChangeSpec := { name := "hexDigits", fn := fun _ => fun
  | [d1, d2] => { results := [.lit (.bool true)], args := [d1, d2] }
  | _ => none }
def hexDigitsRow : OpenClaim := { program := "ytalghfnjelcpnaa", sum := "605182bd160ea7ceee232dd91230765374f802cbc8baab3443d407e7b714aabc", func := "incognito/incognitolaw01.HexDigits", spec := "hexDigits", apart := false }
def HexDigitsSaid : Prop := hexDigitsRow.holds Try.pinned (OpenSpec.ofChange hexDigitsSpec)

/-- ITS FALSE NEIGHBOUR: 'it returns false'. Refute it at one input. -/
def hexDigitsWrong : ChangeSpec := { name := "hexDigits", fn := fun _ => fun
  | [d1, d2] => { results := [.lit (.bool false)], args := [d1, d2] }
  | _ => none }
def HexDigitsWrongFalsely : Prop := hexDigitsRow.holds Try.pinned (OpenSpec.ofChange hexDigitsWrong)

/-- 'incognitolaw01.HexBig': WHATEVER THE INPUT: true; the input reads as it did. -/
def hexBigSpec : ChangeSpec := { name := "hexBig", fn := fun _ => fun
  | [d1, d2] => { results := [.lit (.bool true)], args := [d1, d2] }
  | _ => none }
def hexBigRow : OpenClaim := { program := "ytalghfnjelcpnaa", sum := "605182bd160ea7ceee232dd91230765374f802cbc8baab3443d407e7b714aabc", func := "incognito/incognitolaw01.HexBig", spec := "hexBig", apart := false }
def HexBigSaid : Prop := hexBigRow.holds Try.pinned (OpenSpec.ofChange hexBigSpec)

/-- ITS FALSE NEIGHBOUR: 'it returns false'. Refute it at one input. -/
def hexBigWrong : ChangeSpec := { name := "hexBig", fn := fun _ => fun
  | [d1, d2] => { results := [.lit (.bool false)], args := [d1, d2] }
  | _ => none }
def HexBigWrongFalsely : Prop := hexBigRow.holds Try.pinned (OpenSpec.ofChange hexBigWrong)

/-- 'incognitolaw01.HexNums': WHATEVER THE INPUT: true; the input reads as it did. -/
def hexNumsSpec : ChangeSpec := { name := "hexNums", fn := fun _ => fun
  | [d] => { results := [.lit (.bool true)], args := [d] }
  | _ => none }
def hexNumsRow : OpenClaim := { program := "ytalghfnjelcpnaa", sum := "605182bd160ea7ceee232dd91230765374f802cbc8baab3443d407e7b714aabc", func := "incognito/incognitolaw01.HexNums", spec := "hexNums", apart := false }
def HexNumsSaid : Prop := hexNumsRow.holds Try.pinned (OpenSpec.ofChange hexNumsSpec)

/-- ITS FALSE NEIGHBOUR: 'it returns false'. Refute it at one input. -/
def hexNumsWrong : ChangeSpec := { name := "hexNums", fn := fun _ => fun
  | [d] => { results := [.lit (.bool false)], args := [d] }
  | _ => none }
def HexNumsWrongFalsely : Prop := hexNumsRow.holds Try.pinned (OpenSpec.ofChange hexNumsWrong)

/-- 'incognitolaw02.PrimeIs': WHATEVER THE INPUT: true; the input reads as it did. -/
def primeIsSpec : ChangeSpec := { name := "primeIs", fn := fun _ => fun
  | [d] => { results := [.lit (.bool true)], args := [d] }
  | _ => none }
def primeIsRow : OpenClaim := { program := "ytalghfnjelcpnaa", sum := "605182bd160ea7ceee232dd91230765374f802cbc8baab3443d407e7b714aabc", func := "incognito/incognitolaw02.PrimeIs", spec := "primeIs", unfollowed := true, recurses := true, apart := false }
def PrimeIsSaid : Prop := primeIsRow.holds Try.pinned (OpenSpec.ofChange primeIsSpec)

/-- ITS FALSE NEIGHBOUR: 'it returns false'. Refute it at one input. -/
def primeIsWrong : ChangeSpec := { name := "primeIs", fn := fun _ => fun
  | [d] => { results := [.lit (.bool false)], args := [d] }
  | _ => none }
def PrimeIsWrongFalsely : Prop := primeIsRow.holds Try.pinned (OpenSpec.ofChange primeIsWrong)

/-- 'incognitolaw02.PrimeNth': WHATEVER THE INPUT: true; the input reads as it did. -/
def primeNthSpec : ChangeSpec := { name := "primeNth", fn := fun _ => fun
  | [d] => { results := [.lit (.bool true)], args := [d] }
  | _ => none }
def primeNthRow : OpenClaim := { program := "ytalghfnjelcpnaa", sum := "605182bd160ea7ceee232dd91230765374f802cbc8baab3443d407e7b714aabc", func := "incognito/incognitolaw02.PrimeNth", spec := "primeNth", unfollowed := true, recurses := true, apart := false }
def PrimeNthSaid : Prop := primeNthRow.holds Try.pinned (OpenSpec.ofChange primeNthSpec)

/-- ITS FALSE NEIGHBOUR: 'it returns false'. Refute it at one input. -/
def primeNthWrong : ChangeSpec := { name := "primeNth", fn := fun _ => fun
  | [d] => { results := [.lit (.bool false)], args := [d] }
  | _ => none }
def PrimeNthWrongFalsely : Prop := primeNthRow.holds Try.pinned (OpenSpec.ofChange primeNthWrong)

/-- 'incognitolaw02.PrimeRoots': WHATEVER THE INPUT: true; the input reads as it did. -/
def primeRootsSpec : ChangeSpec := { name := "primeRoots", fn := fun _ => fun
  | [d1, d2] => { results := [.lit (.bool true)], args := [d1, d2] }
  | _ => none }
def primeRootsRow : OpenClaim := { program := "ytalghfnjelcpnaa", sum := "605182bd160ea7ceee232dd91230765374f802cbc8baab3443d407e7b714aabc", func := "incognito/incognitolaw02.PrimeRoots", spec := "primeRoots", unfollowed := true, recurses := true, apart := false }
def PrimeRootsSaid : Prop := primeRootsRow.holds Try.pinned (OpenSpec.ofChange primeRootsSpec)

/-- ITS FALSE NEIGHBOUR: 'it returns false'. Refute it at one input. -/
def primeRootsWrong : ChangeSpec := { name := "primeRoots", fn := fun _ => fun
  | [d1, d2] => { results := [.lit (.bool false)], args := [d1, d2] }
  | _ => none }
def PrimeRootsWrongFalsely : Prop := primeRootsRow.holds Try.pinned (OpenSpec.ofChange primeRootsWrong)

/-- 'incognitolaw02.PrimeSquares': WHATEVER THE INPUT: true; the input reads as it did. -/
def primeSquaresSpec : ChangeSpec := { name := "primeSquares", fn := fun _ => fun
  | [d] => { results := [.lit (.bool true)], args := [d] }
  | _ => none }
def primeSquaresRow : OpenClaim := { program := "ytalghfnjelcpnaa", sum := "605182bd160ea7ceee232dd91230765374f802cbc8baab3443d407e7b714aabc", func := "incognito/incognitolaw02.PrimeSquares", spec := "primeSquares", unfollowed := true, recurses := true, apart := false }
def PrimeSquaresSaid : Prop := primeSquaresRow.holds Try.pinned (OpenSpec.ofChange primeSquaresSpec)

/-- ITS FALSE NEIGHBOUR: 'it returns false'. Refute it at one input. -/
def primeSquaresWrong : ChangeSpec := { name := "primeSquares", fn := fun _ => fun
  | [d] => { results := [.lit (.bool false)], args := [d] }
  | _ => none }
def PrimeSquaresWrongFalsely : Prop := primeSquaresRow.holds Try.pinned (OpenSpec.ofChange primeSquaresWrong)

/- THE SECOND FORM. 'bulk': how many values and letters a reading holds, each counted each time it is reached (what is shared counts as often as it is met; a slice's spare places count too). A statement '..UptoSaid' is the law's where the arguments, and the package variables that the reading takes, are together of bulk at most 1048576: NARROWER than '..Said'. Prove '..Said' where nothing that the law and all that it calls make is longer than what came in: it says more and counts as full. Else prove '..UptoSaid'. A law counts once. -/
mutual
def uptoBulk {H : Type} : DataW H → Nat
  | .lit (.string bytes) => bytes.length + 1
  | .lit _ => 1
  | .nil => 1
  | .ptr d => uptoBulk d + 1
  | .slice elems spare => uptoBulkAll elems + uptoBulkAll spare + 1
  | .agg parts => uptoBulkAll parts + 1
  | .iface _ d => uptoBulk d + 1
  | .map entries => uptoBulkEntries entries + 1
  | .held _ => 1
def uptoBulkAll {H : Type} : List (DataW H) → Nat
  | [] => 0
  | d :: r => uptoBulk d + uptoBulkAll r
def uptoBulkEntries {H : Type} : List (Lit × DataW H) → Nat
  | [] => 0
  | x :: r => uptoBulkEntry x + uptoBulkEntries r
def uptoBulkEntry {H : Type} : Lit × DataW H → Nat
  | (.string bytes, d) => bytes.length + uptoBulk d + 1
  | (_, d) => uptoBulk d + 1
 end
def uptoSmall : (H : Type) → List (DataW H) → Bool := fun _ ds => decide (uptoBulkAll ds ≤ 1048576)
def OpenSpec.upto (s : _root_.Go.ChangeSpec) : _root_.Go.OpenSpec := { _root_.Go.OpenSpec.ofChange s with cond := some uptoSmall }

/-- 'incognitolaw01.HexEncodes', WHERE WHAT IT READS IS OF BULK AT MOST 1048576: true; the input reads as it did. -/
def hexEncodesUptoRow : OpenClaim := { program := "ytalghfnjelcpnaa", sum := "605182bd160ea7ceee232dd91230765374f802cbc8baab3443d407e7b714aabc", func := "incognito/incognitolaw01.HexEncodes", spec := "hexEncodes", apart := false, narrowed := true }
def HexEncodesUptoSaid : Prop := hexEncodesUptoRow.holds Try.pinned (OpenSpec.upto hexEncodesSpec)

/-- 'incognitolaw01.HexDecodes', WHERE WHAT IT READS IS OF BULK AT MOST 1048576: true; the input reads as it did. -/
def hexDecodesUptoRow : OpenClaim := { program := "ytalghfnjelcpnaa", sum := "605182bd160ea7ceee232dd91230765374f802cbc8baab3443d407e7b714aabc", func := "incognito/incognitolaw01.HexDecodes", spec := "hexDecodes", apart := false, narrowed := true }
def HexDecodesUptoSaid : Prop := hexDecodesUptoRow.holds Try.pinned (OpenSpec.upto hexDecodesSpec)

/-- 'incognitolaw01.HexDigits', WHERE WHAT IT READS IS OF BULK AT MOST 1048576: true; the input reads as it did. -/
def hexDigitsUptoRow : OpenClaim := { program := "ytalghfnjelcpnaa", sum := "605182bd160ea7ceee232dd91230765374f802cbc8baab3443d407e7b714aabc", func := "incognito/incognitolaw01.HexDigits", spec := "hexDigits", apart := false, narrowed := true }
def HexDigitsUptoSaid : Prop := hexDigitsUptoRow.holds Try.pinned (OpenSpec.upto hexDigitsSpec)

/-- 'incognitolaw01.HexBig', WHERE WHAT IT READS IS OF BULK AT MOST 1048576: true; the input reads as it did. -/
def hexBigUptoRow : OpenClaim := { program := "ytalghfnjelcpnaa", sum := "605182bd160ea7ceee232dd91230765374f802cbc8baab3443d407e7b714aabc", func := "incognito/incognitolaw01.HexBig", spec := "hexBig", apart := false, narrowed := true }
def HexBigUptoSaid : Prop := hexBigUptoRow.holds Try.pinned (OpenSpec.upto hexBigSpec)

/-- 'incognitolaw01.HexNums', WHERE WHAT IT READS IS OF BULK AT MOST 1048576: true; the input reads as it did. -/
def hexNumsUptoRow : OpenClaim := { program := "ytalghfnjelcpnaa", sum := "605182bd160ea7ceee232dd91230765374f802cbc8baab3443d407e7b714aabc", func := "incognito/incognitolaw01.HexNums", spec := "hexNums", apart := false, narrowed := true }
def HexNumsUptoSaid : Prop := hexNumsUptoRow.holds Try.pinned (OpenSpec.upto hexNumsSpec)

/-- 'incognitolaw02.PrimeIs', WHERE WHAT IT READS IS OF BULK AT MOST 1048576: true; the input reads as it did. -/
def primeIsUptoRow : OpenClaim := { program := "ytalghfnjelcpnaa", sum := "605182bd160ea7ceee232dd91230765374f802cbc8baab3443d407e7b714aabc", func := "incognito/incognitolaw02.PrimeIs", spec := "primeIs", unfollowed := true, recurses := true, apart := false, narrowed := true }
def PrimeIsUptoSaid : Prop := primeIsUptoRow.holds Try.pinned (OpenSpec.upto primeIsSpec)

/-- 'incognitolaw02.PrimeNth', WHERE WHAT IT READS IS OF BULK AT MOST 1048576: true; the input reads as it did. -/
def primeNthUptoRow : OpenClaim := { program := "ytalghfnjelcpnaa", sum := "605182bd160ea7ceee232dd91230765374f802cbc8baab3443d407e7b714aabc", func := "incognito/incognitolaw02.PrimeNth", spec := "primeNth", unfollowed := true, recurses := true, apart := false, narrowed := true }
def PrimeNthUptoSaid : Prop := primeNthUptoRow.holds Try.pinned (OpenSpec.upto primeNthSpec)

/-- 'incognitolaw02.PrimeRoots', WHERE WHAT IT READS IS OF BULK AT MOST 1048576: true; the input reads as it did. -/
def primeRootsUptoRow : OpenClaim := { program := "ytalghfnjelcpnaa", sum := "605182bd160ea7ceee232dd91230765374f802cbc8baab3443d407e7b714aabc", func := "incognito/incognitolaw02.PrimeRoots", spec := "primeRoots", unfollowed := true, recurses := true, apart := false, narrowed := true }
def PrimeRootsUptoSaid : Prop := primeRootsUptoRow.holds Try.pinned (OpenSpec.upto primeRootsSpec)

/-- 'incognitolaw02.PrimeSquares', WHERE WHAT IT READS IS OF BULK AT MOST 1048576: true; the input reads as it did. -/
def primeSquaresUptoRow : OpenClaim := { program := "ytalghfnjelcpnaa", sum := "605182bd160ea7ceee232dd91230765374f802cbc8baab3443d407e7b714aabc", func := "incognito/incognitolaw02.PrimeSquares", spec := "primeSquares", unfollowed := true, recurses := true, apart := false, narrowed := true }
def PrimeSquaresUptoSaid : Prop := primeSquaresUptoRow.holds Try.pinned (OpenSpec.upto primeSquaresSpec)

end Rows
end Go.Proofs.Ytalghfnjelcpnaa
