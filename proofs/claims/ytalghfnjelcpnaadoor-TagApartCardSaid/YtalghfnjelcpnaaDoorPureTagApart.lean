/- TagApart: unlike lists of parts have unlike frames: over lists alone. No conditions. -/
import Derived.Test.YtalghfnjelcpnaaDoorTaL
namespace Go.Proofs.YtalghfnjelcpnaaDoor
open Go.Proofs.YtalghfnjelcpnaaDoor.Ta Go.Proofs.YtalghfnjelcpnaaDoor.TaL
theorem TagApart.pure (l0 l1 : List (List Int)) (hm0 : l0.length ≤ maxLen) (_ : ∀ p ∈ l0, p.length ≤ maxLen ∧ ∀ n ∈ p, (Lit.int .u8 n).wf = true) (hm1 : l1.length ≤ maxLen) (_ : ∀ p ∈ l1, p.length ≤ maxLen ∧ ∀ n ∈ p, (Lit.int .u8 n).wf = true) :
    ∃ k, Ta.incognitolaw05_TagApart.f k l0 l1 = some true := by
  unfold maxLen at hm0 hm1
  refine ⟨l0.length + l1.length + 10000, ?_⟩
  unfold incognitolaw05_TagApart.f
  rw [show incognitolaw05_wakes.f = some true from rfl]
  simp only [Option.bind_some, if_true]
  rcases great_ev l0 (by omega) (l0.length + l1.length + 10000) (by omega) with h | ⟨h, h0, hl0⟩
  · rw [h]; simp
  rcases great_ev l1 (by omega) (l0.length + l1.length + 10000) (by omega) with h' | ⟨h', h1, hl1⟩
  · rw [h, h']; simp
  have b0 := fr_len l0 h0
  rw [h, h', frame_ev l0 h0 (by omega) _ (by omega), frame_ev l1 h1 (by omega) _ (by omega), refsame_ev l0 l1 (by omega) (fun p hp => Nat.le_trans (h0 p hp) (by omega)) _ (by omega)]
  simp only [Option.bind_some]
  rw [same_ev _ _ (by omega) _ (by omega)]
  simp only [Option.bind_some, Bool.false_eq_true, if_false, Option.some.injEq]
  by_cases e : l0 = l1
  · simp [e]
  · have : fr l0 ≠ fr l1 := fun he => e (fr_inj l0 l1 (fun p hp => Nat.le_trans (h0 p hp) (by omega)) (fun p hp => Nat.le_trans (h1 p hp) (by omega)) he)
    simp [e, this]
end Go.Proofs.YtalghfnjelcpnaaDoor
