/- HexDecodes: any text is the bytes that the document says, or refused; what is told has these digits. No conditions. -/
import Derived.Test.YtalghfnjelcpnaaHx6
import Derived.Test.YtalghfnjelcpnaaHexL
namespace Go.Proofs.Ytalghfnjelcpnaa.Pure
open Go.Proofs.Ytalghfnjelcpnaa.HexL Go.RowKit Go.Proofs.Ytalghfnjelcpnaa.Hx Go.Proofs.YtalghfnjelcpnaaW.PrintWords Go.Proofs.YtalghfnjelcpnaaW.PrintLast

/-- YOURS: ∀ (a0 : ByteArray), a0.size ≤ 140737488351232 → ∃ k, incognitolaw01_HexDecodes.f k a0 = some true
What it reaches (each with k first where it has rounds; `.mono`: more rounds tell the same; `.l0`, ..: its loops, with `.mono_l`): hex_Encode.f, hex_Digit.f, hex_Decode.f, incognitoref01_Same.f, hex_Big.f, incognitolaw01_wakes.f, incognitoref01_sign.f, incognitoref01_Digit.f, incognitoref01_Decode.f, incognitolaw01_HexDecodes.f -/
theorem HexDecodes : incognitolaw01_HexDecodes.Pure := by
  intro s _
  obtain ⟨k, hk⟩ : ∃ k : Nat, 2200 ≤ k := ⟨2200, Nat.le_refl _⟩
  refine ⟨k, ?_⟩
  unfold incognitolaw01_HexDecodes.f
  rw [wakes_ev k (by omega)]
  simp only [Option.bind_some, if_true]
  by_cases c : (s.size : Int) > 2000
  · rw [if_pos c]
  · rw [if_neg c]
    by_cases h : s.size % 2 = 0 ∧ ∀ j : Nat, j < s.size → 0 ≤ dgI (bt s j)
    · have hl := bytesS_length s
      have hs := same_self (bytesS s) (by omega) k (by omega)
      have he := enc_ev _ (bytesS_bytes s h.2) (by omega) k (by omega)
      rw [enc_dec s h.1 h.2] at he
      have hr := refdec_ev s (by omega) k (by omega)
      rw [if_pos h] at hr
      rw [dec_yes s (by omega) h.1 h.2, hr]
      generalize bytesS s = b at *
      simp only [Option.bind_some, if_true, hs, he]
      simp
    · rw [dec_no s (by omega) h, refdec_ev s (by omega) k (by omega), if_neg h]
      simp

end Go.Proofs.Ytalghfnjelcpnaa.Pure
