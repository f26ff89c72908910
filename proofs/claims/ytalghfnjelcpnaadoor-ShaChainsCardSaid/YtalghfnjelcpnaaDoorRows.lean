/-
  NARROWER THAN 'FOR EVERY INPUT', by the rows' own cells (each row's printed sentence says how): ShaSums: laid · ShaTurns: laid · ShaPads: laid · ShaParts: laid · ShaChains: laid · ShaWrites: laid · ShaRoots: laid · MacSums: laid · MacBlocks: laid · MacParts: laid · MacWrites: laid · MacSame: laid · TagOf: laid · TagBegins: laid · TagApart: laid · TagFrames: laid · TagParts: laid.
  DERIVED. THE GIVEN ROWS OF THIS SEAT. 17 by the template 'for every input the law returns true; each argument reads behind the call as it read before'; 0 by the template 'total and deterministic' (their statements: YtalghfnjelcpnaaDoorTotals.lean).
  GIVEN WITH THE SEED: the statements are not yours to turn. If you find one false, say at which input.
  Laid BY PROGRAM, IN A SANDBOX (cutbox-rows.mjs): the forced cells as the released guide's own fill.sh prints them over the translation 81970560add0f52c… (all of the seat's roots in one cut). By AI agents, Wed Nov 11 2026. No macro, syntax, notation, axiom, sorry.
-/
import Derived.Test.YtalghfnjelcpnaaDoorChecked
import GoSem.Claim
import GoSem.ClaimJoined
import GoSem.ClaimMapViews
import Derived.JoinedTies
import Derived.KernelRfl
namespace Go.Proofs.YtalghfnjelcpnaaDoor
/- THE CELL 'sum', in the pinned program and in every row, IS THE sha256 OF THE DUMP (.gsa) THAT YtalghfnjelcpnaaDoorProg.lean LOADS. Nothing in Lean hashes anything: it is a label: what it is worth is what the hold of that sum in a sandbox is worth. -/
noncomputable def Tryd.pinned : Pinned := { name := "ytalghfnjelcpnaadoor", sum := "81970560add0f52c50964f06f9e7b607239918a1de2a242b320f498f31066823", checked := Tryd.checked }
namespace Rows
def none {H : Type} : Left H := { results := [], args := [] }

/- WHAT THE LISTED PACKAGE-LEVEL VARIABLES READ AS WHEN THE CALL BEGINS. Each datum BY PROGRAM (the guide's laid-datum.mjs) off the statement by which the dump's own 'gosem.cut.vars' lays the variable. In a bare row this is a premise. The card (YtalghfnjelcpnaaDoorCards.lean) ties it to the program's text. -/
def laid_incognito_sha_rounds {H : Type} : DataW H := .agg [.lit (.int .u32 1116352408), .lit (.int .u32 1899447441), .lit (.int .u32 3049323471), .lit (.int .u32 3921009573), .lit (.int .u32 961987163), .lit (.int .u32 1508970993), .lit (.int .u32 2453635748), .lit (.int .u32 2870763221), .lit (.int .u32 3624381080), .lit (.int .u32 310598401), .lit (.int .u32 607225278), .lit (.int .u32 1426881987), .lit (.int .u32 1925078388), .lit (.int .u32 2162078206), .lit (.int .u32 2614888103), .lit (.int .u32 3248222580), .lit (.int .u32 3835390401), .lit (.int .u32 4022224774), .lit (.int .u32 264347078), .lit (.int .u32 604807628), .lit (.int .u32 770255983), .lit (.int .u32 1249150122), .lit (.int .u32 1555081692), .lit (.int .u32 1996064986), .lit (.int .u32 2554220882), .lit (.int .u32 2821834349), .lit (.int .u32 2952996808), .lit (.int .u32 3210313671), .lit (.int .u32 3336571891), .lit (.int .u32 3584528711), .lit (.int .u32 113926993), .lit (.int .u32 338241895), .lit (.int .u32 666307205), .lit (.int .u32 773529912), .lit (.int .u32 1294757372), .lit (.int .u32 1396182291), .lit (.int .u32 1695183700), .lit (.int .u32 1986661051), .lit (.int .u32 2177026350), .lit (.int .u32 2456956037), .lit (.int .u32 2730485921), .lit (.int .u32 2820302411), .lit (.int .u32 3259730800), .lit (.int .u32 3345764771), .lit (.int .u32 3516065817), .lit (.int .u32 3600352804), .lit (.int .u32 4094571909), .lit (.int .u32 275423344), .lit (.int .u32 430227734), .lit (.int .u32 506948616), .lit (.int .u32 659060556), .lit (.int .u32 883997877), .lit (.int .u32 958139571), .lit (.int .u32 1322822218), .lit (.int .u32 1537002063), .lit (.int .u32 1747873779), .lit (.int .u32 1955562222), .lit (.int .u32 2024104815), .lit (.int .u32 2227730452), .lit (.int .u32 2361852424), .lit (.int .u32 2428436474), .lit (.int .u32 2756734187), .lit (.int .u32 3204031479), .lit (.int .u32 3329325298)]

/-- 'incognitolaw03.ShaSums': WHATEVER THE INPUT: true; the input reads as it did. -/
def shaSumsSpec : ChangeSpec := { name := "shaSums", fn := fun _ => fun
  | [d] => { results := [.lit (.bool true)], args := [d] }
  | _ => none }
def shaSumsRow : OpenClaim := { program := "ytalghfnjelcpnaadoor", sum := "81970560add0f52c50964f06f9e7b607239918a1de2a242b320f498f31066823", func := "incognito/incognitolaw03.ShaSums", spec := "shaSums", unfollowed := true, recurses := true, named := ["incognito/sha.rounds"], apart := false, laid := [("incognito/sha.rounds", laid_incognito_sha_rounds)] }
def ShaSumsSaid : Prop := shaSumsRow.holds Tryd.pinned (OpenSpec.ofChange shaSumsSpec)

/-- ITS FALSE NEIGHBOUR: 'it returns false'. Refute it at one input. -/
def shaSumsWrong : ChangeSpec := { name := "shaSums", fn := fun _ => fun
  | [d] => { results := [.lit (.bool false)], args := [d] }
  | _ => none }
def ShaSumsWrongFalsely : Prop := shaSumsRow.holds Tryd.pinned (OpenSpec.ofChange shaSumsWrong)

/-- 'incognitolaw03.ShaTurns': WHATEVER THE INPUT: true; the input reads as it did. -/
def shaTurnsSpec : ChangeSpec := { name := "shaTurns", fn := fun _ => fun
  | [d1, d2] => { results := [.lit (.bool true)], args := [d1, d2] }
  | _ => none }
def shaTurnsRow : OpenClaim := { program := "ytalghfnjelcpnaadoor", sum := "81970560add0f52c50964f06f9e7b607239918a1de2a242b320f498f31066823", func := "incognito/incognitolaw03.ShaTurns", spec := "shaTurns", unfollowed := true, recurses := true, named := ["incognito/sha.rounds"], apart := false, laid := [("incognito/sha.rounds", laid_incognito_sha_rounds)] }
def ShaTurnsSaid : Prop := shaTurnsRow.holds Tryd.pinned (OpenSpec.ofChange shaTurnsSpec)

/-- ITS FALSE NEIGHBOUR: 'it returns false'. Refute it at one input. -/
def shaTurnsWrong : ChangeSpec := { name := "shaTurns", fn := fun _ => fun
  | [d1, d2] => { results := [.lit (.bool false)], args := [d1, d2] }
  | _ => none }
def ShaTurnsWrongFalsely : Prop := shaTurnsRow.holds Tryd.pinned (OpenSpec.ofChange shaTurnsWrong)

/-- 'incognitolaw03.ShaPads': WHATEVER THE INPUT: true; the input reads as it did. -/
def shaPadsSpec : ChangeSpec := { name := "shaPads", fn := fun _ => fun
  | [d] => { results := [.lit (.bool true)], args := [d] }
  | _ => none }
def shaPadsRow : OpenClaim := { program := "ytalghfnjelcpnaadoor", sum := "81970560add0f52c50964f06f9e7b607239918a1de2a242b320f498f31066823", func := "incognito/incognitolaw03.ShaPads", spec := "shaPads", unfollowed := true, recurses := true, named := ["incognito/sha.rounds"], apart := false, laid := [("incognito/sha.rounds", laid_incognito_sha_rounds)] }
def ShaPadsSaid : Prop := shaPadsRow.holds Tryd.pinned (OpenSpec.ofChange shaPadsSpec)

/-- ITS FALSE NEIGHBOUR: 'it returns false'. Refute it at one input. -/
def shaPadsWrong : ChangeSpec := { name := "shaPads", fn := fun _ => fun
  | [d] => { results := [.lit (.bool false)], args := [d] }
  | _ => none }
def ShaPadsWrongFalsely : Prop := shaPadsRow.holds Tryd.pinned (OpenSpec.ofChange shaPadsWrong)

/-- 'incognitolaw03.ShaParts': WHATEVER THE INPUT: true; the input reads as it did. -/
def shaPartsSpec : ChangeSpec := { name := "shaParts", fn := fun _ => fun
  | [d] => { results := [.lit (.bool true)], args := [d] }
  | _ => none }
def shaPartsRow : OpenClaim := { program := "ytalghfnjelcpnaadoor", sum := "81970560add0f52c50964f06f9e7b607239918a1de2a242b320f498f31066823", func := "incognito/incognitolaw03.ShaParts", spec := "shaParts", unfollowed := true, recurses := true, named := ["incognito/sha.rounds"], apart := false, laid := [("incognito/sha.rounds", laid_incognito_sha_rounds)] }
def ShaPartsSaid : Prop := shaPartsRow.holds Tryd.pinned (OpenSpec.ofChange shaPartsSpec)

/-- ITS FALSE NEIGHBOUR: 'it returns false'. Refute it at one input. -/
def shaPartsWrong : ChangeSpec := { name := "shaParts", fn := fun _ => fun
  | [d] => { results := [.lit (.bool false)], args := [d] }
  | _ => none }
def ShaPartsWrongFalsely : Prop := shaPartsRow.holds Tryd.pinned (OpenSpec.ofChange shaPartsWrong)

/-- 'incognitolaw03.ShaChains': WHATEVER THE INPUT: true; the input reads as it did. -/
def shaChainsSpec : ChangeSpec := { name := "shaChains", fn := fun _ => fun
  | [d] => { results := [.lit (.bool true)], args := [d] }
  | _ => none }
def shaChainsRow : OpenClaim := { program := "ytalghfnjelcpnaadoor", sum := "81970560add0f52c50964f06f9e7b607239918a1de2a242b320f498f31066823", func := "incognito/incognitolaw03.ShaChains", spec := "shaChains", unfollowed := true, recurses := true, named := ["incognito/sha.rounds"], apart := false, laid := [("incognito/sha.rounds", laid_incognito_sha_rounds)] }
def ShaChainsSaid : Prop := shaChainsRow.holds Tryd.pinned (OpenSpec.ofChange shaChainsSpec)

/-- ITS FALSE NEIGHBOUR: 'it returns false'. Refute it at one input. -/
def shaChainsWrong : ChangeSpec := { name := "shaChains", fn := fun _ => fun
  | [d] => { results := [.lit (.bool false)], args := [d] }
  | _ => none }
def ShaChainsWrongFalsely : Prop := shaChainsRow.holds Tryd.pinned (OpenSpec.ofChange shaChainsWrong)

/-- 'incognitolaw03.ShaWrites': WHATEVER THE INPUT: true; the input reads as it did. -/
def shaWritesSpec : ChangeSpec := { name := "shaWrites", fn := fun _ => fun
  | [d1, d2] => { results := [.lit (.bool true)], args := [d1, d2] }
  | _ => none }
def shaWritesRow : OpenClaim := { program := "ytalghfnjelcpnaadoor", sum := "81970560add0f52c50964f06f9e7b607239918a1de2a242b320f498f31066823", func := "incognito/incognitolaw03.ShaWrites", spec := "shaWrites", unfollowed := true, recurses := true, named := ["incognito/sha.rounds"], apart := false, laid := [("incognito/sha.rounds", laid_incognito_sha_rounds)] }
def ShaWritesSaid : Prop := shaWritesRow.holds Tryd.pinned (OpenSpec.ofChange shaWritesSpec)

/-- ITS FALSE NEIGHBOUR: 'it returns false'. Refute it at one input. -/
def shaWritesWrong : ChangeSpec := { name := "shaWrites", fn := fun _ => fun
  | [d1, d2] => { results := [.lit (.bool false)], args := [d1, d2] }
  | _ => none }
def ShaWritesWrongFalsely : Prop := shaWritesRow.holds Tryd.pinned (OpenSpec.ofChange shaWritesWrong)

/-- 'incognitolaw03.ShaRoots': WHATEVER THE INPUT: true; the input reads as it did. -/
def shaRootsSpec : ChangeSpec := { name := "shaRoots", fn := fun _ => fun
  | [d] => { results := [.lit (.bool true)], args := [d] }
  | _ => none }
def shaRootsRow : OpenClaim := { program := "ytalghfnjelcpnaadoor", sum := "81970560add0f52c50964f06f9e7b607239918a1de2a242b320f498f31066823", func := "incognito/incognitolaw03.ShaRoots", spec := "shaRoots", unfollowed := true, recurses := true, named := ["incognito/sha.rounds"], apart := false, laid := [("incognito/sha.rounds", laid_incognito_sha_rounds)] }
def ShaRootsSaid : Prop := shaRootsRow.holds Tryd.pinned (OpenSpec.ofChange shaRootsSpec)

/-- ITS FALSE NEIGHBOUR: 'it returns false'. Refute it at one input. -/
def shaRootsWrong : ChangeSpec := { name := "shaRoots", fn := fun _ => fun
  | [d] => { results := [.lit (.bool false)], args := [d] }
  | _ => none }
def ShaRootsWrongFalsely : Prop := shaRootsRow.holds Tryd.pinned (OpenSpec.ofChange shaRootsWrong)

/-- 'incognitolaw04.MacSums': WHATEVER THE INPUT: true; the input reads as it did. -/
def macSumsSpec : ChangeSpec := { name := "macSums", fn := fun _ => fun
  | [d1, d2] => { results := [.lit (.bool true)], args := [d1, d2] }
  | _ => none }
def macSumsRow : OpenClaim := { program := "ytalghfnjelcpnaadoor", sum := "81970560add0f52c50964f06f9e7b607239918a1de2a242b320f498f31066823", func := "incognito/incognitolaw04.MacSums", spec := "macSums", unfollowed := true, recurses := true, named := ["incognito/sha.rounds"], apart := false, laid := [("incognito/sha.rounds", laid_incognito_sha_rounds)] }
def MacSumsSaid : Prop := macSumsRow.holds Tryd.pinned (OpenSpec.ofChange macSumsSpec)

/-- ITS FALSE NEIGHBOUR: 'it returns false'. Refute it at one input. -/
def macSumsWrong : ChangeSpec := { name := "macSums", fn := fun _ => fun
  | [d1, d2] => { results := [.lit (.bool false)], args := [d1, d2] }
  | _ => none }
def MacSumsWrongFalsely : Prop := macSumsRow.holds Tryd.pinned (OpenSpec.ofChange macSumsWrong)

/-- 'incognitolaw04.MacBlocks': WHATEVER THE INPUT: true; the input reads as it did. -/
def macBlocksSpec : ChangeSpec := { name := "macBlocks", fn := fun _ => fun
  | [d1, d2, d3] => { results := [.lit (.bool true)], args := [d1, d2, d3] }
  | _ => none }
def macBlocksRow : OpenClaim := { program := "ytalghfnjelcpnaadoor", sum := "81970560add0f52c50964f06f9e7b607239918a1de2a242b320f498f31066823", func := "incognito/incognitolaw04.MacBlocks", spec := "macBlocks", unfollowed := true, recurses := true, named := ["incognito/sha.rounds"], apart := false, laid := [("incognito/sha.rounds", laid_incognito_sha_rounds)] }
def MacBlocksSaid : Prop := macBlocksRow.holds Tryd.pinned (OpenSpec.ofChange macBlocksSpec)

/-- ITS FALSE NEIGHBOUR: 'it returns false'. Refute it at one input. -/
def macBlocksWrong : ChangeSpec := { name := "macBlocks", fn := fun _ => fun
  | [d1, d2, d3] => { results := [.lit (.bool false)], args := [d1, d2, d3] }
  | _ => none }
def MacBlocksWrongFalsely : Prop := macBlocksRow.holds Tryd.pinned (OpenSpec.ofChange macBlocksWrong)

/-- 'incognitolaw04.MacParts': WHATEVER THE INPUT: true; the input reads as it did. -/
def macPartsSpec : ChangeSpec := { name := "macParts", fn := fun _ => fun
  | [d1, d2] => { results := [.lit (.bool true)], args := [d1, d2] }
  | _ => none }
def macPartsRow : OpenClaim := { program := "ytalghfnjelcpnaadoor", sum := "81970560add0f52c50964f06f9e7b607239918a1de2a242b320f498f31066823", func := "incognito/incognitolaw04.MacParts", spec := "macParts", unfollowed := true, recurses := true, named := ["incognito/sha.rounds"], apart := false, laid := [("incognito/sha.rounds", laid_incognito_sha_rounds)] }
def MacPartsSaid : Prop := macPartsRow.holds Tryd.pinned (OpenSpec.ofChange macPartsSpec)

/-- ITS FALSE NEIGHBOUR: 'it returns false'. Refute it at one input. -/
def macPartsWrong : ChangeSpec := { name := "macParts", fn := fun _ => fun
  | [d1, d2] => { results := [.lit (.bool false)], args := [d1, d2] }
  | _ => none }
def MacPartsWrongFalsely : Prop := macPartsRow.holds Tryd.pinned (OpenSpec.ofChange macPartsWrong)

/-- 'incognitolaw04.MacWrites': WHATEVER THE INPUT: true; the input reads as it did. -/
def macWritesSpec : ChangeSpec := { name := "macWrites", fn := fun _ => fun
  | [d1, d2, d3] => { results := [.lit (.bool true)], args := [d1, d2, d3] }
  | _ => none }
def macWritesRow : OpenClaim := { program := "ytalghfnjelcpnaadoor", sum := "81970560add0f52c50964f06f9e7b607239918a1de2a242b320f498f31066823", func := "incognito/incognitolaw04.MacWrites", spec := "macWrites", unfollowed := true, recurses := true, named := ["incognito/sha.rounds"], apart := false, laid := [("incognito/sha.rounds", laid_incognito_sha_rounds)] }
def MacWritesSaid : Prop := macWritesRow.holds Tryd.pinned (OpenSpec.ofChange macWritesSpec)

/-- ITS FALSE NEIGHBOUR: 'it returns false'. Refute it at one input. -/
def macWritesWrong : ChangeSpec := { name := "macWrites", fn := fun _ => fun
  | [d1, d2, d3] => { results := [.lit (.bool false)], args := [d1, d2, d3] }
  | _ => none }
def MacWritesWrongFalsely : Prop := macWritesRow.holds Tryd.pinned (OpenSpec.ofChange macWritesWrong)

/-- 'incognitolaw04.MacSame': WHATEVER THE INPUT: true; the input reads as it did. -/
def macSameSpec : ChangeSpec := { name := "macSame", fn := fun _ => fun
  | [d1, d2] => { results := [.lit (.bool true)], args := [d1, d2] }
  | _ => none }
def macSameRow : OpenClaim := { program := "ytalghfnjelcpnaadoor", sum := "81970560add0f52c50964f06f9e7b607239918a1de2a242b320f498f31066823", func := "incognito/incognitolaw04.MacSame", spec := "macSame", unfollowed := true, recurses := true, named := ["incognito/sha.rounds"], apart := false, laid := [("incognito/sha.rounds", laid_incognito_sha_rounds)] }
def MacSameSaid : Prop := macSameRow.holds Tryd.pinned (OpenSpec.ofChange macSameSpec)

/-- ITS FALSE NEIGHBOUR: 'it returns false'. Refute it at one input. -/
def macSameWrong : ChangeSpec := { name := "macSame", fn := fun _ => fun
  | [d1, d2] => { results := [.lit (.bool false)], args := [d1, d2] }
  | _ => none }
def MacSameWrongFalsely : Prop := macSameRow.holds Tryd.pinned (OpenSpec.ofChange macSameWrong)

/-- 'incognitolaw05.TagOf': WHATEVER THE INPUT: true; the input reads as it did. -/
def tagOfSpec : ChangeSpec := { name := "tagOf", fn := fun _ => fun
  | [d1, d2] => { results := [.lit (.bool true)], args := [d1, d2] }
  | _ => none }
def tagOfRow : OpenClaim := { program := "ytalghfnjelcpnaadoor", sum := "81970560add0f52c50964f06f9e7b607239918a1de2a242b320f498f31066823", func := "incognito/incognitolaw05.TagOf", spec := "tagOf", unfollowed := true, recurses := true, named := ["incognito/sha.rounds"], apart := false, laid := [("incognito/sha.rounds", laid_incognito_sha_rounds)] }
def TagOfSaid : Prop := tagOfRow.holds Tryd.pinned (OpenSpec.ofChange tagOfSpec)

/-- ITS FALSE NEIGHBOUR: 'it returns false'. Refute it at one input. -/
def tagOfWrong : ChangeSpec := { name := "tagOf", fn := fun _ => fun
  | [d1, d2] => { results := [.lit (.bool false)], args := [d1, d2] }
  | _ => none }
def TagOfWrongFalsely : Prop := tagOfRow.holds Tryd.pinned (OpenSpec.ofChange tagOfWrong)

/-- 'incognitolaw05.TagBegins': WHATEVER THE INPUT: true; the input reads as it did. -/
def tagBeginsSpec : ChangeSpec := { name := "tagBegins", fn := fun _ => fun
  | [d1, d2, d3] => { results := [.lit (.bool true)], args := [d1, d2, d3] }
  | _ => none }
def tagBeginsRow : OpenClaim := { program := "ytalghfnjelcpnaadoor", sum := "81970560add0f52c50964f06f9e7b607239918a1de2a242b320f498f31066823", func := "incognito/incognitolaw05.TagBegins", spec := "tagBegins", unfollowed := true, recurses := true, named := ["incognito/sha.rounds"], apart := false, laid := [("incognito/sha.rounds", laid_incognito_sha_rounds)] }
def TagBeginsSaid : Prop := tagBeginsRow.holds Tryd.pinned (OpenSpec.ofChange tagBeginsSpec)

/-- ITS FALSE NEIGHBOUR: 'it returns false'. Refute it at one input. -/
def tagBeginsWrong : ChangeSpec := { name := "tagBegins", fn := fun _ => fun
  | [d1, d2, d3] => { results := [.lit (.bool false)], args := [d1, d2, d3] }
  | _ => none }
def TagBeginsWrongFalsely : Prop := tagBeginsRow.holds Tryd.pinned (OpenSpec.ofChange tagBeginsWrong)

/-- 'incognitolaw05.TagApart': WHATEVER THE INPUT: true; the input reads as it did. -/
def tagApartSpec : ChangeSpec := { name := "tagApart", fn := fun _ => fun
  | [d1, d2] => { results := [.lit (.bool true)], args := [d1, d2] }
  | _ => none }
def tagApartRow : OpenClaim := { program := "ytalghfnjelcpnaadoor", sum := "81970560add0f52c50964f06f9e7b607239918a1de2a242b320f498f31066823", func := "incognito/incognitolaw05.TagApart", spec := "tagApart", unfollowed := true, recurses := true, named := ["incognito/sha.rounds"], apart := false, laid := [("incognito/sha.rounds", laid_incognito_sha_rounds)] }
def TagApartSaid : Prop := tagApartRow.holds Tryd.pinned (OpenSpec.ofChange tagApartSpec)

/-- ITS FALSE NEIGHBOUR: 'it returns false'. Refute it at one input. -/
def tagApartWrong : ChangeSpec := { name := "tagApart", fn := fun _ => fun
  | [d1, d2] => { results := [.lit (.bool false)], args := [d1, d2] }
  | _ => none }
def TagApartWrongFalsely : Prop := tagApartRow.holds Tryd.pinned (OpenSpec.ofChange tagApartWrong)

/-- 'incognitolaw05.TagFrames': WHATEVER THE INPUT: true; the input reads as it did. -/
def tagFramesSpec : ChangeSpec := { name := "tagFrames", fn := fun _ => fun
  | [d] => { results := [.lit (.bool true)], args := [d] }
  | _ => none }
def tagFramesRow : OpenClaim := { program := "ytalghfnjelcpnaadoor", sum := "81970560add0f52c50964f06f9e7b607239918a1de2a242b320f498f31066823", func := "incognito/incognitolaw05.TagFrames", spec := "tagFrames", unfollowed := true, recurses := true, named := ["incognito/sha.rounds"], apart := false, laid := [("incognito/sha.rounds", laid_incognito_sha_rounds)] }
def TagFramesSaid : Prop := tagFramesRow.holds Tryd.pinned (OpenSpec.ofChange tagFramesSpec)

/-- ITS FALSE NEIGHBOUR: 'it returns false'. Refute it at one input. -/
def tagFramesWrong : ChangeSpec := { name := "tagFrames", fn := fun _ => fun
  | [d] => { results := [.lit (.bool false)], args := [d] }
  | _ => none }
def TagFramesWrongFalsely : Prop := tagFramesRow.holds Tryd.pinned (OpenSpec.ofChange tagFramesWrong)

/-- 'incognitolaw05.TagParts': WHATEVER THE INPUT: true; the input reads as it did. -/
def tagPartsSpec : ChangeSpec := { name := "tagParts", fn := fun _ => fun
  | [d] => { results := [.lit (.bool true)], args := [d] }
  | _ => none }
def tagPartsRow : OpenClaim := { program := "ytalghfnjelcpnaadoor", sum := "81970560add0f52c50964f06f9e7b607239918a1de2a242b320f498f31066823", func := "incognito/incognitolaw05.TagParts", spec := "tagParts", unfollowed := true, recurses := true, named := ["incognito/sha.rounds"], apart := false, laid := [("incognito/sha.rounds", laid_incognito_sha_rounds)] }
def TagPartsSaid : Prop := tagPartsRow.holds Tryd.pinned (OpenSpec.ofChange tagPartsSpec)

/-- ITS FALSE NEIGHBOUR: 'it returns false'. Refute it at one input. -/
def tagPartsWrong : ChangeSpec := { name := "tagParts", fn := fun _ => fun
  | [d] => { results := [.lit (.bool false)], args := [d] }
  | _ => none }
def TagPartsWrongFalsely : Prop := tagPartsRow.holds Tryd.pinned (OpenSpec.ofChange tagPartsWrong)

/- THE SECOND FORM. 'bulk': how many values and letters a reading holds, each counted each time it is reached (what is shared counts as often as it is met; a slice's spare places count too). A statement '..UptoSaid' is the law's where the arguments, and the package variables that the reading takes, are together of bulk at most 1048576: NARROWER than '..Said'. Prove '..Said' where nothing that the law and all that it calls make is longer than what came in: it says more and counts as full. Else prove '..UptoSaid'. A law counts once. -/
mutual
def uptoBulk {H : Type} : DataW H → Nat
  | .lit (.string bytes) => bytes.length + 1
  | .lit _ => 1
  | .nil => 1
  | .ptr d => uptoBulk d + 1
  | .slice elems spare => uptoBulkAll elems + uptoBulkAll spare + 1
  | .agg parts => uptoBulkAll parts + 1
  | .iface _ d => uptoBulk d + 1
  | .map entries => uptoBulkEntries entries + 1
  | .held _ => 1
def uptoBulkAll {H : Type} : List (DataW H) → Nat
  | [] => 0
  | d :: r => uptoBulk d + uptoBulkAll r
def uptoBulkEntries {H : Type} : List (Lit × DataW H) → Nat
  | [] => 0
  | x :: r => uptoBulkEntry x + uptoBulkEntries r
def uptoBulkEntry {H : Type} : Lit × DataW H → Nat
  | (.string bytes, d) => bytes.length + uptoBulk d + 1
  | (_, d) => uptoBulk d + 1
 end
def uptoSmall : (H : Type) → List (DataW H) → Bool := fun _ ds => decide (uptoBulkAll ds ≤ 1048576)
def OpenSpec.upto (s : _root_.Go.ChangeSpec) : _root_.Go.OpenSpec := { _root_.Go.OpenSpec.ofChange s with cond := some uptoSmall }

/-- 'incognitolaw03.ShaSums', WHERE WHAT IT READS IS OF BULK AT MOST 1048576: true; the input reads as it did. -/
def shaSumsUptoRow : OpenClaim := { program := "ytalghfnjelcpnaadoor", sum := "81970560add0f52c50964f06f9e7b607239918a1de2a242b320f498f31066823", func := "incognito/incognitolaw03.ShaSums", spec := "shaSums", unfollowed := true, recurses := true, named := ["incognito/sha.rounds"], apart := false, laid := [("incognito/sha.rounds", laid_incognito_sha_rounds)], narrowed := true }
def ShaSumsUptoSaid : Prop := shaSumsUptoRow.holds Tryd.pinned (OpenSpec.upto shaSumsSpec)

/-- 'incognitolaw03.ShaTurns', WHERE WHAT IT READS IS OF BULK AT MOST 1048576: true; the input reads as it did. -/
def shaTurnsUptoRow : OpenClaim := { program := "ytalghfnjelcpnaadoor", sum := "81970560add0f52c50964f06f9e7b607239918a1de2a242b320f498f31066823", func := "incognito/incognitolaw03.ShaTurns", spec := "shaTurns", unfollowed := true, recurses := true, named := ["incognito/sha.rounds"], apart := false, laid := [("incognito/sha.rounds", laid_incognito_sha_rounds)], narrowed := true }
def ShaTurnsUptoSaid : Prop := shaTurnsUptoRow.holds Tryd.pinned (OpenSpec.upto shaTurnsSpec)

/-- 'incognitolaw03.ShaPads', WHERE WHAT IT READS IS OF BULK AT MOST 1048576: true; the input reads as it did. -/
def shaPadsUptoRow : OpenClaim := { program := "ytalghfnjelcpnaadoor", sum := "81970560add0f52c50964f06f9e7b607239918a1de2a242b320f498f31066823", func := "incognito/incognitolaw03.ShaPads", spec := "shaPads", unfollowed := true, recurses := true, named := ["incognito/sha.rounds"], apart := false, laid := [("incognito/sha.rounds", laid_incognito_sha_rounds)], narrowed := true }
def ShaPadsUptoSaid : Prop := shaPadsUptoRow.holds Tryd.pinned (OpenSpec.upto shaPadsSpec)

/-- 'incognitolaw03.ShaParts', WHERE WHAT IT READS IS OF BULK AT MOST 1048576: true; the input reads as it did. -/
def shaPartsUptoRow : OpenClaim := { program := "ytalghfnjelcpnaadoor", sum := "81970560add0f52c50964f06f9e7b607239918a1de2a242b320f498f31066823", func := "incognito/incognitolaw03.ShaParts", spec := "shaParts", unfollowed := true, recurses := true, named := ["incognito/sha.rounds"], apart := false, laid := [("incognito/sha.rounds", laid_incognito_sha_rounds)], narrowed := true }
def ShaPartsUptoSaid : Prop := shaPartsUptoRow.holds Tryd.pinned (OpenSpec.upto shaPartsSpec)

/-- 'incognitolaw03.ShaChains', WHERE WHAT IT READS IS OF BULK AT MOST 1048576: true; the input reads as it did. -/
def shaChainsUptoRow : OpenClaim := { program := "ytalghfnjelcpnaadoor", sum := "81970560add0f52c50964f06f9e7b607239918a1de2a242b320f498f31066823", func := "incognito/incognitolaw03.ShaChains", spec := "shaChains", unfollowed := true, recurses := true, named := ["incognito/sha.rounds"], apart := false, laid := [("incognito/sha.rounds", laid_incognito_sha_rounds)], narrowed := true }
def ShaChainsUptoSaid : Prop := shaChainsUptoRow.holds Tryd.pinned (OpenSpec.upto shaChainsSpec)

/-- 'incognitolaw03.ShaWrites', WHERE WHAT IT READS IS OF BULK AT MOST 1048576: true; the input reads as it did. -/
def shaWritesUptoRow : OpenClaim := { program := "ytalghfnjelcpnaadoor", sum := "81970560add0f52c50964f06f9e7b607239918a1de2a242b320f498f31066823", func := "incognito/incognitolaw03.ShaWrites", spec := "shaWrites", unfollowed := true, recurses := true, named := ["incognito/sha.rounds"], apart := false, laid := [("incognito/sha.rounds", laid_incognito_sha_rounds)], narrowed := true }
def ShaWritesUptoSaid : Prop := shaWritesUptoRow.holds Tryd.pinned (OpenSpec.upto shaWritesSpec)

/-- 'incognitolaw03.ShaRoots', WHERE WHAT IT READS IS OF BULK AT MOST 1048576: true; the input reads as it did. -/
def shaRootsUptoRow : OpenClaim := { program := "ytalghfnjelcpnaadoor", sum := "81970560add0f52c50964f06f9e7b607239918a1de2a242b320f498f31066823", func := "incognito/incognitolaw03.ShaRoots", spec := "shaRoots", unfollowed := true, recurses := true, named := ["incognito/sha.rounds"], apart := false, laid := [("incognito/sha.rounds", laid_incognito_sha_rounds)], narrowed := true }
def ShaRootsUptoSaid : Prop := shaRootsUptoRow.holds Tryd.pinned (OpenSpec.upto shaRootsSpec)

/-- 'incognitolaw04.MacSums', WHERE WHAT IT READS IS OF BULK AT MOST 1048576: true; the input reads as it did. -/
def macSumsUptoRow : OpenClaim := { program := "ytalghfnjelcpnaadoor", sum := "81970560add0f52c50964f06f9e7b607239918a1de2a242b320f498f31066823", func := "incognito/incognitolaw04.MacSums", spec := "macSums", unfollowed := true, recurses := true, named := ["incognito/sha.rounds"], apart := false, laid := [("incognito/sha.rounds", laid_incognito_sha_rounds)], narrowed := true }
def MacSumsUptoSaid : Prop := macSumsUptoRow.holds Tryd.pinned (OpenSpec.upto macSumsSpec)

/-- 'incognitolaw04.MacBlocks', WHERE WHAT IT READS IS OF BULK AT MOST 1048576: true; the input reads as it did. -/
def macBlocksUptoRow : OpenClaim := { program := "ytalghfnjelcpnaadoor", sum := "81970560add0f52c50964f06f9e7b607239918a1de2a242b320f498f31066823", func := "incognito/incognitolaw04.MacBlocks", spec := "macBlocks", unfollowed := true, recurses := true, named := ["incognito/sha.rounds"], apart := false, laid := [("incognito/sha.rounds", laid_incognito_sha_rounds)], narrowed := true }
def MacBlocksUptoSaid : Prop := macBlocksUptoRow.holds Tryd.pinned (OpenSpec.upto macBlocksSpec)

/-- 'incognitolaw04.MacParts', WHERE WHAT IT READS IS OF BULK AT MOST 1048576: true; the input reads as it did. -/
def macPartsUptoRow : OpenClaim := { program := "ytalghfnjelcpnaadoor", sum := "81970560add0f52c50964f06f9e7b607239918a1de2a242b320f498f31066823", func := "incognito/incognitolaw04.MacParts", spec := "macParts", unfollowed := true, recurses := true, named := ["incognito/sha.rounds"], apart := false, laid := [("incognito/sha.rounds", laid_incognito_sha_rounds)], narrowed := true }
def MacPartsUptoSaid : Prop := macPartsUptoRow.holds Tryd.pinned (OpenSpec.upto macPartsSpec)

/-- 'incognitolaw04.MacWrites', WHERE WHAT IT READS IS OF BULK AT MOST 1048576: true; the input reads as it did. -/
def macWritesUptoRow : OpenClaim := { program := "ytalghfnjelcpnaadoor", sum := "81970560add0f52c50964f06f9e7b607239918a1de2a242b320f498f31066823", func := "incognito/incognitolaw04.MacWrites", spec := "macWrites", unfollowed := true, recurses := true, named := ["incognito/sha.rounds"], apart := false, laid := [("incognito/sha.rounds", laid_incognito_sha_rounds)], narrowed := true }
def MacWritesUptoSaid : Prop := macWritesUptoRow.holds Tryd.pinned (OpenSpec.upto macWritesSpec)

/-- 'incognitolaw04.MacSame', WHERE WHAT IT READS IS OF BULK AT MOST 1048576: true; the input reads as it did. -/
def macSameUptoRow : OpenClaim := { program := "ytalghfnjelcpnaadoor", sum := "81970560add0f52c50964f06f9e7b607239918a1de2a242b320f498f31066823", func := "incognito/incognitolaw04.MacSame", spec := "macSame", unfollowed := true, recurses := true, named := ["incognito/sha.rounds"], apart := false, laid := [("incognito/sha.rounds", laid_incognito_sha_rounds)], narrowed := true }
def MacSameUptoSaid : Prop := macSameUptoRow.holds Tryd.pinned (OpenSpec.upto macSameSpec)

/-- 'incognitolaw05.TagOf', WHERE WHAT IT READS IS OF BULK AT MOST 1048576: true; the input reads as it did. -/
def tagOfUptoRow : OpenClaim := { program := "ytalghfnjelcpnaadoor", sum := "81970560add0f52c50964f06f9e7b607239918a1de2a242b320f498f31066823", func := "incognito/incognitolaw05.TagOf", spec := "tagOf", unfollowed := true, recurses := true, named := ["incognito/sha.rounds"], apart := false, laid := [("incognito/sha.rounds", laid_incognito_sha_rounds)], narrowed := true }
def TagOfUptoSaid : Prop := tagOfUptoRow.holds Tryd.pinned (OpenSpec.upto tagOfSpec)

/-- 'incognitolaw05.TagBegins', WHERE WHAT IT READS IS OF BULK AT MOST 1048576: true; the input reads as it did. -/
def tagBeginsUptoRow : OpenClaim := { program := "ytalghfnjelcpnaadoor", sum := "81970560add0f52c50964f06f9e7b607239918a1de2a242b320f498f31066823", func := "incognito/incognitolaw05.TagBegins", spec := "tagBegins", unfollowed := true, recurses := true, named := ["incognito/sha.rounds"], apart := false, laid := [("incognito/sha.rounds", laid_incognito_sha_rounds)], narrowed := true }
def TagBeginsUptoSaid : Prop := tagBeginsUptoRow.holds Tryd.pinned (OpenSpec.upto tagBeginsSpec)

/-- 'incognitolaw05.TagApart', WHERE WHAT IT READS IS OF BULK AT MOST 1048576: true; the input reads as it did. -/
def tagApartUptoRow : OpenClaim := { program := "ytalghfnjelcpnaadoor", sum := "81970560add0f52c50964f06f9e7b607239918a1de2a242b320f498f31066823", func := "incognito/incognitolaw05.TagApart", spec := "tagApart", unfollowed := true, recurses := true, named := ["incognito/sha.rounds"], apart := false, laid := [("incognito/sha.rounds", laid_incognito_sha_rounds)], narrowed := true }
def TagApartUptoSaid : Prop := tagApartUptoRow.holds Tryd.pinned (OpenSpec.upto tagApartSpec)

/-- 'incognitolaw05.TagFrames', WHERE WHAT IT READS IS OF BULK AT MOST 1048576: true; the input reads as it did. -/
def tagFramesUptoRow : OpenClaim := { program := "ytalghfnjelcpnaadoor", sum := "81970560add0f52c50964f06f9e7b607239918a1de2a242b320f498f31066823", func := "incognito/incognitolaw05.TagFrames", spec := "tagFrames", unfollowed := true, recurses := true, named := ["incognito/sha.rounds"], apart := false, laid := [("incognito/sha.rounds", laid_incognito_sha_rounds)], narrowed := true }
def TagFramesUptoSaid : Prop := tagFramesUptoRow.holds Tryd.pinned (OpenSpec.upto tagFramesSpec)

/-- 'incognitolaw05.TagParts', WHERE WHAT IT READS IS OF BULK AT MOST 1048576: true; the input reads as it did. -/
def tagPartsUptoRow : OpenClaim := { program := "ytalghfnjelcpnaadoor", sum := "81970560add0f52c50964f06f9e7b607239918a1de2a242b320f498f31066823", func := "incognito/incognitolaw05.TagParts", spec := "tagParts", unfollowed := true, recurses := true, named := ["incognito/sha.rounds"], apart := false, laid := [("incognito/sha.rounds", laid_incognito_sha_rounds)], narrowed := true }
def TagPartsUptoSaid : Prop := tagPartsUptoRow.holds Tryd.pinned (OpenSpec.upto tagPartsSpec)

end Rows
end Go.Proofs.YtalghfnjelcpnaaDoor
