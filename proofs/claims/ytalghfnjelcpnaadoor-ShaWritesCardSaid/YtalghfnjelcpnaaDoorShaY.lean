/- The document's Start, and a digest's bytes one by one. No conditions. -/
import Derived.Test.YtalghfnjelcpnaaDoorShaX
namespace Go.Proofs.YtalghfnjelcpnaaDoor
open Go.RowKit Go.Proofs.YtalghfnjelcpnaaDoorW.PrintWords Go.Proofs.YtalghfnjelcpnaaDoor.Db

set_option maxHeartbeats 1000000 in
set_option maxRecDepth 100000 in
theorem refStart_any (w : World) : Calls Tryd.prog 55 #[] w fun e w' => e = .returned (AV .u64 start8) ∧ Below w.heap.size w w' := by
  go_enter Tryd.func55, Tryd.ntmps55
  go_wp2_with (first
    | (refine build_const rfl 32 _ rfl (start8.map (Value.int .u64)).toArray (by kernel_rfl) ?_)
    | (refine store_arr (xs := start8) rfl 32 0 1 rfl rfl w.heap.size rfl rfl (Arr.new_at (k := .u64) (xs := List.replicate 8 0) rfl rfl) rfl (by kernel_rfl) ?_; intro w2 hg2 hs2 hA2))
  exact ret_arr 0 32 (by kernel_rfl) rfl hA2 Tryd.underlying32 (by kernel_rfl) rfl ⟨rfl, ((Below.refl _ w).alloc (Nat.le_refl _) _).grown hg2 (by rw [World.size_alloc]; omega) (by intro j e; cases e; omega)⟩
theorem bigL_b8 (x : Int) (k : Nat) : B8s (bigL x k) := by
  induction k with
  | zero => intro y hy; cases hy
  | succ k ih =>
    intro y hy
    rw [bigL] at hy
    rcases List.mem_cons.1 hy with rfl | h
    · exact ⟨Int.emod_nonneg _ (by decide), by have := Int.emod_lt_of_pos (x / 256 ^ k) (show (0 : Int) < 256 by decide); omega⟩
    · exact ih y h
theorem b8_app {a b : List Int} (h : B8s a) (k : B8s b) : B8s (a ++ b) := fun x hx => by
  rcases List.mem_append.1 hx with h1 | h1
  · exact h x h1
  · exact k x h1
theorem pl_b8 (n : Nat) : B8s (pl n) := by
  unfold pl
  refine b8_app (fun y hy => ?_) (bigL_b8 _ _)
  rcases List.mem_or_eq_of_mem_set hy with h1 | rfl
  · rw [List.eq_of_mem_replicate h1]; exact ⟨by decide, by decide⟩
  · exact ⟨by decide, by decide⟩
theorem b8_part {l : List Int} (h : B8s l) (i k : Nat) : B8s ((l.drop i).take k) := fun x hx => h x (List.mem_of_mem_drop (List.mem_of_mem_take hx))
theorem outs_at (S : List Int) : ∀ q r, q < S.length → r < 4 → (outs S).getD (4 * q + r) 0 = S.getD q 0 / 256 ^ (3 - r) % 256 := by
  induction S with
  | nil => intro q r h; cases h
  | cons x S ih =>
    intro q r hq hr
    have e : outs (x :: S) = bigL x 4 ++ outs S := by simp [outs]
    rw [e]
    cases q with
    | zero =>
      rw [List.getD_eq_getElem?_getD, List.getElem?_append_left (by rw [bigL_length]; omega)]
      simp only [List.getD_cons_zero]
      match r, hr with
      | 0, _ => rfl
      | 1, _ => rfl
      | 2, _ => rfl
      | 3, _ => rfl
    | succ q =>
      rw [List.getD_eq_getElem?_getD, List.getElem?_append_right (by rw [bigL_length]; omega), bigL_length, show 4 * (q + 1) + r - 4 = 4 * q + r by omega, ← List.getD_eq_getElem?_getD, ih q r (by simpa using hq) hr]
      rw [List.getD_cons_succ]
end Go.Proofs.YtalghfnjelcpnaaDoor
