/- PrimeRoots: the fraction of any root is the one that lies next below it, by whole numbers; of numbers beyond there is none. No conditions. -/
import Derived.Test.YtalghfnjelcpnaaPr9
import Derived.Test.YtalghfnjelcpnaaPrimeL
import Derived.Test.YtalghfnjelcpnaaPrimeT
namespace Go.Proofs.Ytalghfnjelcpnaa.Pure
open Go.Proofs.Ytalghfnjelcpnaa.PrimeR Go.RowKit Go.Proofs.Ytalghfnjelcpnaa.Pr Go.Proofs.YtalghfnjelcpnaaW.PrintWords Go.Proofs.YtalghfnjelcpnaaW.PrintLast

/-- YOURS: ∀ (a0 : Int) (a1 : Int), (Lit.int .i64 a0).wf = true → (Lit.int .i64 a1).wf = true → ∃ k, incognitolaw02_PrimeRoots.f k a0 a1 = some true
What it reaches (each with k first where it has rounds; `.mono`: more rounds tell the same; `.l0`, ..: its loops, with `.mono_l`): prime_all.f, prime_Nth.f, bits_Mul64.f, prime_above.f, prime_Root.f, incognitolaw02_wakes.f, incognitoref02_digits.f, incognitoref02_at.f, incognitoref02_most.f, incognitoref02_times.f, incognitoref02_power.f, incognitoref02_Fits.f, incognitolaw02_PrimeRoots.f -/
theorem PrimeRoots : incognitolaw02_PrimeRoots.Pure := by
  intro p kk _ _
  obtain ⟨k, hk⟩ : ∃ k : Nat, 13000 ≤ k := ⟨13000, Nat.le_refl _⟩
  refine ⟨k, ?_⟩
  unfold incognitolaw02_PrimeRoots.f
  rw [PrimeL.wakes_ev k (by omega)]
  simp only [bs, if_true]
  by_cases c : (2 ≤ p ∧ p ≤ 1000) ∧ (kk = 2 ∨ kk = 3)
  · obtain ⟨⟨c1, c2⟩, c3⟩ := c
    obtain ⟨r, r1, r2, r3, r4⟩ := root_val p kk c3 c1 c2 k (by omega)
    have hf := fits_val p kk c3 c1 c2 r r1 r2 r3 k (by omega)
    rw [r4]
    simp only [bs]
    rw [if_neg (show ¬ p < 2 by omega), if_neg (show ¬ p > 1000 by omega)]
    rcases c3 with rfl | rfl
    · rw [if_pos rfl, if_pos trivial, hf]
      rfl
    · rw [if_neg (by decide), if_pos rfl, if_pos trivial, hf]
      rfl
  · rw [root_no p kk (by omega) k (by omega)]
    simp only [bs]
    by_cases c1 : p < 2
    · rw [if_pos c1]; rfl
    · rw [if_neg c1]
      by_cases c2 : p > 1000
      · rw [if_pos c2]; rfl
      · rw [if_neg c2, if_neg (show ¬ kk = 2 by omega), if_neg (show ¬ kk = 3 by omega)]; rfl

end Go.Proofs.Ytalghfnjelcpnaa.Pure
