/- HexEncodes: any bytes have the digits that the document says, and are told again from them. No conditions. -/
import Derived.Test.YtalghfnjelcpnaaHx5
import Derived.Test.YtalghfnjelcpnaaHexL
namespace Go.Proofs.Ytalghfnjelcpnaa.Pure
open Go.Proofs.Ytalghfnjelcpnaa.HexL Go.RowKit Go.Proofs.Ytalghfnjelcpnaa.Hx Go.Proofs.YtalghfnjelcpnaaW.PrintWords Go.Proofs.YtalghfnjelcpnaaW.PrintLast

/-- YOURS: ∀ (l0 : List Int), l0.length ≤ maxLen → l0.length * 1 ≤ 140737488351232 → (∀ x ∈ l0, (Lit.int .u8 x).wf = true) → ∃ k, incognitolaw01_HexEncodes.f k l0 = some true
What it reaches (each with k first where it has rounds; `.mono`: more rounds tell the same; `.l0`, ..: its loops, with `.mono_l`): hex_Encode.f, hex_Digit.f, hex_Decode.f, incognitoref01_Same.f, hex_Big.f, incognitolaw01_wakes.f, incognitoref01_sign.f, incognitoref01_Encode.f, incognitolaw01_HexEncodes.f -/
theorem HexEncodes : incognitolaw01_HexEncodes.Pure := by
  intro l _ _ hw
  have hb := bytes_of_wf hw
  refine ⟨2100, ?_⟩
  unfold incognitolaw01_HexEncodes.f
  rw [wakes_ev 2100 (by omega)]
  simp only [Option.bind_some, if_true]
  by_cases c : (l.length : Int) > 2000
  · rw [if_pos c]
  · rw [if_neg c, enc_ev l hb (by omega) 2100 (by omega)]
    simp only [Option.bind_some]
    rw [dec_enc l hb (by omega), refenc_ev l hb (by omega) 2100 (by omega)]
    simp only [Option.bind_some, if_true]
    rw [same_ev _ _ (by omega) 2100 (by omega)]
    simp

end Go.Proofs.Ytalghfnjelcpnaa.Pure
