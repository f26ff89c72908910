/- TagFrames: any parts have the document's frame, and are told again from it: over lists alone. No conditions. -/
import Derived.Test.YtalghfnjelcpnaaDoorTfL
namespace Go.Proofs.YtalghfnjelcpnaaDoor
open Go.Proofs.YtalghfnjelcpnaaDoor.Tf Go.Proofs.YtalghfnjelcpnaaDoor.TfL
theorem TagFrames.pure (l0 : List (List Int)) (hm0 : l0.length ≤ maxLen) (hw : ∀ p ∈ l0, p.length ≤ maxLen ∧ ∀ n ∈ p, (Lit.int .u8 n).wf = true) :
    ∃ k, Tf.incognitolaw05_TagFrames.f k l0 = some true := by
  unfold maxLen at hm0
  refine ⟨l0.length + 1000000, ?_⟩
  unfold incognitolaw05_TagFrames.f
  rw [show incognitolaw05_wakes.f = some true from rfl]
  simp only [Option.bind_some, if_true]
  rcases great_ev l0 (by omega) (l0.length + 1000000) (by omega) with h | ⟨h, h0, hl0⟩
  · rw [h]; simp
  have h1 : ∀ p ∈ l0, p.length ≤ 1000 := fun p hp => Nat.le_trans (h0 p hp) (by omega)
  have b0 := fr_len l0 h1
  have hb : Bytes (fr l0) := fr_bytes l0 (fun p hp => bytes_of_wf (hw p hp).2)
  rw [h, frame_ev l0 h1 (by omega) _ (by omega)]
  simp only [Option.bind_some, Bool.false_eq_true, if_false]
  rw [parts_ev _ (by omega) hb _ (by omega), refframe_ev l0 h1 (by omega) _ (by omega), pt_fr l0 [] _ h1 (by have := (fr_ge l0).1; omega)]
  simp only [Option.bind_some, res, List.nil_append]
  rw [same_ev _ _ (by omega) _ (by omega)]
  simp only [Option.bind_some, decide_true, if_true]
  rw [refsame_ev l0 l0 (by omega) h1 _ (by omega)]
  simp
end Go.Proofs.YtalghfnjelcpnaaDoor
