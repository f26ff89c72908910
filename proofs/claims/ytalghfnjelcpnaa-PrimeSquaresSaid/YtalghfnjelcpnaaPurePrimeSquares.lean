/- PrimeSquares: the root of a square, and of a cube, has no fraction; of what lies between it has one. No conditions. -/
import Derived.Test.YtalghfnjelcpnaaPr10
import Derived.Test.YtalghfnjelcpnaaPrimeL
namespace Go.Proofs.Ytalghfnjelcpnaa.Pure
open Go.Proofs.Ytalghfnjelcpnaa.PrimeL Go.RowKit Go.Proofs.Ytalghfnjelcpnaa.Pr Go.Proofs.YtalghfnjelcpnaaW.PrintWords Go.Proofs.YtalghfnjelcpnaaW.PrintLast

/-- YOURS: ∀ (a0 : Int), (Lit.int .i64 a0).wf = true → ∃ k, incognitolaw02_PrimeSquares.f k a0 = some true
What it reaches (each with k first where it has rounds; `.mono`: more rounds tell the same; `.l0`, ..: its loops, with `.mono_l`): prime_all.f, prime_Nth.f, bits_Mul64.f, prime_above.f, prime_Root.f, incognitolaw02_wakes.f, incognitolaw02_PrimeSquares.f -/
theorem PrimeSquares : incognitolaw02_PrimeSquares.Pure := by
  intro i _
  by_cases c : 0 ≤ i ∧ i ≤ 31
  · have h := squares_all ⟨i.toNat, by omega⟩
    simp only [Int.toNat_of_nonneg c.1] at h
    exact ⟨60, h⟩
  · refine ⟨61, ?_⟩
    unfold incognitolaw02_PrimeSquares.f
    rw [wakes_ev 61 (by omega)]
    simp only [Option.bind_some, if_true]
    by_cases c1 : i < 2
    · rw [if_pos c1]; simp only [incognitolaw02_PrimeSquares.j0, if_true]
    · rw [if_neg c1, decide_eq_true (show i > 31 by omega)]; simp only [incognitolaw02_PrimeSquares.j0, if_true]

end Go.Proofs.Ytalghfnjelcpnaa.Pure
