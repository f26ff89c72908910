/- PrimeNth: any prime by its number is the document's; each one is a prime, and between one and the next there is none. No conditions. -/
import Derived.Test.YtalghfnjelcpnaaPr5
import Derived.Test.YtalghfnjelcpnaaPrimeL
namespace Go.Proofs.Ytalghfnjelcpnaa.Pure
open Go.Proofs.Ytalghfnjelcpnaa.PrimeL Go.RowKit Go.Proofs.Ytalghfnjelcpnaa.Pr Go.Proofs.YtalghfnjelcpnaaW.PrintWords Go.Proofs.YtalghfnjelcpnaaW.PrintLast

/-- YOURS: ∀ (a0 : Int), (Lit.int .i64 a0).wf = true → ∃ k, incognitolaw02_PrimeNth.f k a0 = some true
What it reaches (each with k first where it has rounds; `.mono`: more rounds tell the same; `.l0`, ..: its loops, with `.mono_l`): prime_all.f, prime_Nth.f, bits_Mul64.f, prime_above.f, prime_Root.f, incognitolaw02_wakes.f, prime_Is.f, incognitoref02_Is.f, incognitoref02_Nth.f, incognitolaw02_PrimeNth.f -/
theorem PrimeNth : incognitolaw02_PrimeNth.Pure := by
  intro i _
  by_cases c : 0 ≤ i ∧ i ≤ 99
  · have h := nth_all ⟨i.toNat, by omega⟩
    simp only [Int.toNat_of_nonneg c.1] at h
    exact ⟨700, h⟩
  · obtain ⟨k, hk⟩ : ∃ k : Nat, 1200 ≤ k := ⟨1200, Nat.le_refl _⟩
    obtain ⟨m, rfl⟩ : ∃ m, k = m + 1 := ⟨k - 1, by omega⟩
    have hn : prime_Nth.f i = some 0 := by unfold prime_Nth.f nthI; rw [if_neg c]
    have hr : incognitoref02_Nth.f (m + 1) i = some 0 := by
      unfold incognitoref02_Nth.f
      by_cases c0 : i < 0
      · rw [if_pos c0]; simp only [incognitoref02_Nth.j0, if_true]
      · rw [if_neg c0, decide_eq_true (show i > 99 by omega)]; simp only [incognitoref02_Nth.j0, if_true]
    refine ⟨m + 1, ?_⟩
    unfold incognitolaw02_PrimeNth.f
    rw [wakes_ev (m + 1) (by omega), hn, hr]
    simp only [Option.bind_some, if_true]
    by_cases c1 : i < 1
    · rw [if_pos c1]; simp only [incognitolaw02_PrimeNth.j0, if_true]
    · rw [if_neg c1, decide_eq_true (show i > 99 by omega)]; simp only [incognitolaw02_PrimeNth.j0, if_true]

end Go.Proofs.Ytalghfnjelcpnaa.Pure
