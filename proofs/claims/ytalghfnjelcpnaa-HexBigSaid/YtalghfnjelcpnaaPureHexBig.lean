/- HexBig: any number in any number of bytes is as the document says; in eight it is told again; less bytes are the end of more. No conditions. -/
import Derived.Test.YtalghfnjelcpnaaHx8
import Derived.Test.YtalghfnjelcpnaaHexL
namespace Go.Proofs.Ytalghfnjelcpnaa.Pure
open Go.Proofs.Ytalghfnjelcpnaa.HexL Go.RowKit Go.Proofs.Ytalghfnjelcpnaa.Hx Go.Proofs.YtalghfnjelcpnaaW.PrintWords Go.Proofs.YtalghfnjelcpnaaW.PrintLast

/-- YOURS: ∀ (a0 : Int) (a1 : Int), (Lit.int .u64 a0).wf = true → (Lit.int .i64 a1).wf = true → ∃ k, incognitolaw01_HexBig.f k a0 a1 = some true
What it reaches (each with k first where it has rounds; `.mono`: more rounds tell the same; `.l0`, ..: its loops, with `.mono_l`): hex_Encode.f, hex_Digit.f, hex_Decode.f, incognitoref01_Same.f, hex_Big.f, incognitolaw01_wakes.f, hex_Num.f, incognitoref01_Big.f, incognitolaw01_HexBig.f -/
theorem HexBig : incognitolaw01_HexBig.Pure := by
  intro n s hn hs
  have bn := bounds_u64 hn
  have bs := bounds_i64 hs
  refine ⟨60, ?_⟩
  have e8 : min (8 : Int).toNat 8 = 8 := by decide
  obtain ⟨m, hm⟩ : ∃ m, min s.toNat 8 = m := ⟨_, rfl⟩
  unfold incognitolaw01_HexBig.f
  rw [wakes_ev 60 (by omega), big_ev n s (by omega) 60 (by omega), big_ev n 8 (by omega) 60 (by omega), e8, hm]
  simp only [Option.bind_some, if_true]
  rw [num_ev _ (bigL_bytes _ _) (by rw [bigL_length]; decide) 60 (by rw [bigL_length]; decide), refbig_ev n (by omega) (by omega) s (by omega) 60 (by omega), hm]
  simp only [Option.bind_some, if_true]
  rw [same_ev _ _ (by rw [bigL_length]; omega) 60 (by rw [bigL_length]; omega)]
  simp only [Option.bind_some, decide_true, if_true, bigL_length]
  rw [num_big 8 n (by omega) (by omega), if_pos rfl, if_pos (by omega), w64 (by omega) (by omega), if_pos (by omega), if_pos (by omega),
    show (((8 : Nat) : Int) - (m : Int)).toNat = 8 - m by omega, bigL_drop n 8 m (by omega), same_ev _ _ (by rw [bigL_length]; omega) 60 (by rw [bigL_length]; omega)]
  simp

end Go.Proofs.Ytalghfnjelcpnaa.Pure
