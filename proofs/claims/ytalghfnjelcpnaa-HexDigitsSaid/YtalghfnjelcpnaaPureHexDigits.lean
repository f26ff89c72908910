/- HexDigits: each byte is the digit that the document says, or none; no two digits stand for one number. No conditions. -/
import Derived.Test.YtalghfnjelcpnaaHx7
import Derived.Test.YtalghfnjelcpnaaHexL
namespace Go.Proofs.Ytalghfnjelcpnaa.Pure
open Go.Proofs.Ytalghfnjelcpnaa.HexL Go.RowKit Go.Proofs.Ytalghfnjelcpnaa.Hx Go.Proofs.YtalghfnjelcpnaaW.PrintWords Go.Proofs.YtalghfnjelcpnaaW.PrintLast

/-- YOURS: ∀ (a0 : Int) (a1 : Int), (Lit.int .u8 a0).wf = true → (Lit.int .u8 a1).wf = true → ∃ k, incognitolaw01_HexDigits.f k a0 a1 = some true
What it reaches (each with k first where it has rounds; `.mono`: more rounds tell the same; `.l0`, ..: its loops, with `.mono_l`): hex_Encode.f, hex_Digit.f, hex_Decode.f, incognitoref01_Same.f, hex_Big.f, incognitolaw01_wakes.f, incognitoref01_sign.f, incognitoref01_Digit.f, incognitolaw01_HexDigits.f -/
theorem HexDigits : incognitolaw01_HexDigits.Pure := by
  intro a b ha hb
  have ba := bounds_u8 ha
  have bb := bounds_u8 hb
  refine ⟨60, ?_⟩
  unfold incognitolaw01_HexDigits.f
  rw [wakes_ev 60 (by omega), digit_ev a (by omega) (by omega) 60 (by omega), digit_ev b (by omega) (by omega) 60 (by omega), refdigit_ev a (by omega) (by omega) 60 (by omega)]
  simp only [Option.bind_some, if_true]
  by_cases c : dgI a < 0
  · rw [if_pos c]
  · rw [if_neg c]
    by_cases e : dgI a = dgI b
    · rw [if_pos e, dgI_inj e (by omega)]
      simp
    · rw [if_neg e]

end Go.Proofs.Ytalghfnjelcpnaa.Pure
