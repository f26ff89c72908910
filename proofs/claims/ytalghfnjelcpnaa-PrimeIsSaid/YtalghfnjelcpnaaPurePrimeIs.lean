/- PrimeIs: any number is a prime, or none, as the document says. No conditions. -/
import Derived.Test.YtalghfnjelcpnaaPr3
import Derived.Test.YtalghfnjelcpnaaPrimeL
namespace Go.Proofs.Ytalghfnjelcpnaa.Pure
open Go.Proofs.Ytalghfnjelcpnaa.PrimeL Go.RowKit Go.Proofs.Ytalghfnjelcpnaa.Pr Go.Proofs.YtalghfnjelcpnaaW.PrintWords Go.Proofs.YtalghfnjelcpnaaW.PrintLast

/-- YOURS: ∀ (a0 : Int), (Lit.int .i64 a0).wf = true → ∃ k, incognitolaw02_PrimeIs.f k a0 = some true
What it reaches (each with k first where it has rounds; `.mono`: more rounds tell the same; `.l0`, ..: its loops, with `.mono_l`): prime_all.f, prime_Nth.f, bits_Mul64.f, prime_above.f, prime_Root.f, incognitolaw02_wakes.f, prime_Is.f, incognitoref02_Is.f, incognitolaw02_PrimeIs.f -/
theorem PrimeIs : incognitolaw02_PrimeIs.Pure := by
  intro n _
  obtain ⟨k, hk⟩ : ∃ k : Nat, 1200 ≤ k := ⟨1200, Nat.le_refl _⟩
  obtain ⟨r, h1, h2⟩ := is_same n k (by omega)
  refine ⟨k, ?_⟩
  unfold incognitolaw02_PrimeIs.f
  rw [wakes_ev k (by omega)]
  simp only [Option.bind_some, if_true]
  rw [h1, h2]
  simp

end Go.Proofs.Ytalghfnjelcpnaa.Pure
