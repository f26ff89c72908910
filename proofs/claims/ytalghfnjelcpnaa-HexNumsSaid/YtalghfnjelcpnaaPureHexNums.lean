/- HexNums: any bytes, up to eight, are the number whose bytes they are; of more there is none. No conditions. -/
import Derived.Test.YtalghfnjelcpnaaHx8
import Derived.Test.YtalghfnjelcpnaaHexL
namespace Go.Proofs.Ytalghfnjelcpnaa.Pure
open Go.Proofs.Ytalghfnjelcpnaa.HexL Go.RowKit Go.Proofs.Ytalghfnjelcpnaa.Hx Go.Proofs.YtalghfnjelcpnaaW.PrintWords Go.Proofs.YtalghfnjelcpnaaW.PrintLast

/-- YOURS: ∀ (l0 : List Int), l0.length ≤ maxLen → l0.length * 1 ≤ 140737488351232 → (∀ x ∈ l0, (Lit.int .u8 x).wf = true) → ∃ k, incognitolaw01_HexNums.f k l0 = some true
What it reaches (each with k first where it has rounds; `.mono`: more rounds tell the same; `.l0`, ..: its loops, with `.mono_l`): hex_Encode.f, hex_Digit.f, hex_Decode.f, incognitoref01_Same.f, hex_Big.f, incognitolaw01_wakes.f, hex_Num.f, incognitoref01_Big.f, incognitolaw01_HexNums.f -/
theorem HexNums : incognitolaw01_HexNums.Pure := by
  intro l _ _ hw
  have hb := bytes_of_wf hw
  refine ⟨60, ?_⟩
  unfold incognitolaw01_HexNums.f
  rw [wakes_ev 60 (by omega)]
  simp only [Option.bind_some, if_true]
  by_cases c : (l.length : Int) > 8
  · unfold hex_Num.f
    simp only [if_pos c, Option.bind_some]
    simp
  · have hl : l.length ≤ 8 := by omega
    rw [num_ev l hb hl 60 (by omega)]
    obtain ⟨n0, n1⟩ := numL_bd l.length l rfl hb
    have n2 : numL l < 18446744073709551616 := by
      by_cases e : l.length = 8
      · rw [e] at n1; exact n1
      · have := pow_le8 l.length (by omega); omega
    simp only [Option.bind_some, if_neg c, if_true]
    rw [refbig_ev _ n0 n2 _ (by omega) 60 (by omega)]
    simp only [Option.bind_some]
    rw [show min (l.length : Int).toNat 8 = l.length by omega, big_num l.length l rfl hb, same_ev _ _ (by omega) 60 (by omega)]
    simp only [Option.bind_some, decide_true, if_true]
    by_cases e : (l.length : Int) = 8
    · rw [if_pos e]
    · rw [if_neg e, w64 (by omega) (by omega), wu64 (by omega) (by omega), if_pos (by omega)]
      have : shr .u64 (numL l) (8 * (l.length : Int)) = 0 := by
        unfold shr
        rw [show min (8 * (l.length : Int)).toNat (IntKind.u64.bits) = 8 * l.length by simp only [IntKind.bits]; omega, Int.pow_mul]
        exact Int.ediv_eq_zero_of_lt n0 n1
      rw [this]
      rfl

end Go.Proofs.Ytalghfnjelcpnaa.Pure
