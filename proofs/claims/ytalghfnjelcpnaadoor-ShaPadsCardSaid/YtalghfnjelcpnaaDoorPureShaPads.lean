/- ShaPads: any padding is the document's: over lists alone. No conditions. -/
import Derived.Test.YtalghfnjelcpnaaDoorTpL
namespace Go.Proofs.YtalghfnjelcpnaaDoor
open Go.RowKit Go.Proofs.YtalghfnjelcpnaaDoor.Tp Go.Proofs.YtalghfnjelcpnaaDoor.TpL
theorem ShaPads.pure (n : Int) (h0 : 0 ≤ n) (h1 : n < 18446744073709551616) : ∃ k, Tp.incognitolaw03_ShaPads.f k n = some true := by
  refine ⟨1000, ?_⟩
  obtain ⟨m, hm⟩ : ∃ m : Nat, n % 64 = m := ⟨(n % 64).toNat, by omega⟩
  unfold incognitolaw03_ShaPads.f
  rw [show incognitolaw03_wakes.f = some true from rfl]
  simp only [obind, if_true]
  rw [pad_all n h0 h1 m hm 1000 (by omega)]
  simp only [obind]
  have hr : incognitoref03_Pad.f 1000 n = some ((128 :: List.replicate ((119 - m) % 64) 0) ++ TpL.bigL (IntKind.u64.wrap (8 * n)) 8) := l0_ev n h0 h1 m hm _ 1000 0 (by omega) rfl (by omega)
  rw [hr]
  simp only [obind]
  have hl : ((128 :: List.replicate ((119 - m) % 64) 0) ++ TpL.bigL (IntKind.u64.wrap (8 * n)) 8).length = 9 + (119 - m) % 64 := by simp [TpL.bigL_length]; omega
  rw [same_ev _ _ (by rw [hl]; omega) 1000 (by rw [hl]; omega)]
  simp only [obind, decide_true, if_true]
  rw [hl]
  have hw : ∀ x : Int, IntKind.u64.wrap x = x % 18446744073709551616 := fun x => rfl
  rw [if_pos (by omega), if_pos (by omega), hw, hw, Int.tmod_eq_emod_of_nonneg (by omega)]
  simp
  omega
end Go.Proofs.YtalghfnjelcpnaaDoor
