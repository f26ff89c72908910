/- TagParts: any bytes are the parts that the document says, or refused; what is told has this frame: over lists alone. No conditions. -/
import Derived.Test.YtalghfnjelcpnaaDoorTfL
namespace Go.Proofs.YtalghfnjelcpnaaDoor
open Go.Proofs.YtalghfnjelcpnaaDoor.Tf Go.Proofs.YtalghfnjelcpnaaDoor.TfL
theorem TagParts.pure (l0 : List Int) (_ : l0.length ≤ maxLen) (hw : ∀ n ∈ l0, (Lit.int .u8 n).wf = true) :
    ∃ k, Tf.incognitolaw05_TagParts.f k l0 = some true := by
  refine ⟨1000000, ?_⟩
  unfold incognitolaw05_TagParts.f
  rw [show incognitolaw05_wakes.f = some true from rfl]
  simp only [Option.bind_some, if_true]
  by_cases c : (l0.length : Int) > 500
  · rw [if_pos c]
  have hb : Bytes l0 := bytes_of_wf hw
  rw [if_neg c, parts_ev _ (by omega) hb _ (by omega), refparts_ev _ (by omega) hb _ (by omega)]
  simp only [Option.bind_some]
  cases hp : pt (l0.length + 1) l0 [] with
  | none => simp [res, resR]
  | some r =>
    obtain ⟨s, hs, hf⟩ := pt_sound _ _ _ _ hb hp
    rw [List.nil_append] at hs
    subst hs
    have hg := fr_ge r
    rw [hf] at hg
    have h1 : ∀ p ∈ r, p.length ≤ 1000 := fun p hp => Nat.le_trans (hg.2 p hp) (by omega)
    simp only [res, resR, if_true]
    rw [refsame_ev r r (by omega) h1 _ (by omega)]
    simp only [Option.bind_some, decide_true, if_true]
    rw [frame_ev r h1 (by omega) _ (by omega)]
    simp only [Option.bind_some]
    rw [same_ev _ _ (by rw [hf]; omega) _ (by rw [hf]; omega), hf]
    simp
end Go.Proofs.YtalghfnjelcpnaaDoor
