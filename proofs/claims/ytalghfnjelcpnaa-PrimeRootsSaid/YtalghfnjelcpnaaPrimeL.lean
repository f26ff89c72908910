/- The plain laws of prime, first part: the examples; Is is the reference's Is, for every number; Nth and the squares, number by number by the kernel. No program, no memory. -/
import Derived.Test.YtalghfnjelcpnaaPr
namespace Go.Proofs.Ytalghfnjelcpnaa.PrimeL
open Go.RowKit Go.Proofs.Ytalghfnjelcpnaa.Pr Go.Proofs.YtalghfnjelcpnaaW.PrintWords Go.Proofs.YtalghfnjelcpnaaW.PrintLast Go.Proofs.YtalghfnjelcpnaaW.PrintMore

theorem w64 {x : Int} (h0 : -9223372036854775808 ≤ x) (h1 : x ≤ 9223372036854775807) : wrap64 x = x := by unfold wrap64; omega
theorem wu64 {x : Int} (h0 : 0 ≤ x) (h1 : x < 18446744073709551616) : IntKind.u64.wrap x = x := IntWalk.u64_in _ (by omega)

theorem wakes_at : incognitolaw02_wakes.f 60 = some true := by decide +kernel
theorem wakes_ev : ∀ k, 60 ≤ k → incognitolaw02_wakes.f k = some true := fun _ hk => at_rounds incognitolaw02_wakes.mono hk wakes_at

/-! ### Is -/
theorem is_go (n : Int) (h0 : 2 ≤ n) (h1 : n ≤ 1048576) (t : Nat) : ∀ (k : Nat) (d : Int), 2 ≤ d → (1026 : Int) - d = t → t < k → ∃ r, prime_Is.l0 k n d = some r ∧ incognitoref02_Is.l0 k n d = some r := by
  induction t with
  | zero =>
    intro k d hd ht hk
    obtain ⟨k, rfl⟩ : ∃ m, k = m + 1 := ⟨k - 1, by omega⟩
    obtain rfl : d = 1026 := by omega
    refine ⟨true, ?_, ?_⟩
    · simp only [prime_Is.l0]
      rw [w64 (by omega) (by omega), if_neg (by omega)]
    · simp only [incognitoref02_Is.l0]
      rw [Int.tdiv_eq_ediv_of_nonneg (by omega), w64 (by omega) (by omega), if_neg (by omega), if_neg (by omega)]
  | succ t ih =>
    intro k d hd ht hk
    obtain ⟨k, rfl⟩ : ∃ m, k = m + 1 := ⟨k - 1, by omega⟩
    have hd2 : d ≤ 1025 := by omega
    have hdd : d * d ≤ 1025 * 1025 := Int.mul_le_mul hd2 hd2 (by omega) (by omega)
    have hdd0 : 0 ≤ d * d := Int.mul_nonneg (by omega) (by omega)
    have hq0 : 0 ≤ n / d := Int.ediv_nonneg (by omega) (by omega)
    have hq1 : n / d ≤ n := Int.ediv_le_self _ (by omega)
    have hle : d ≤ n / d ↔ d * d ≤ n := Int.le_ediv_iff_mul_le (by omega)
    have hmd : n / d * d + n % d = n := by rw [Int.mul_comm]; exact Int.mul_ediv_add_emod n d
    have hm0 : 0 ≤ n % d := Int.emod_nonneg _ (by omega)
    have hp0 : 0 ≤ n / d * d := Int.mul_nonneg hq0 (by omega)
    simp only [prime_Is.l0, incognitoref02_Is.l0]
    rw [Int.tdiv_eq_ediv_of_nonneg (by omega), Int.tmod_eq_emod_of_nonneg (by omega), w64 (x := d * d) (by omega) (by omega), w64 (x := n / d) (by omega) (by omega), w64 (x := n / d * d) (by omega) (by omega), w64 (x := d + 1) (by omega) (by omega)]
    by_cases c : d * d ≤ n
    · rw [if_pos c, if_neg (show ¬ d = 0 by omega), if_neg (show ¬ d = 0 by omega), if_pos (hle.2 c)]
      by_cases e : n % d = 0
      · rw [if_pos e, if_pos (by omega)]
        exact ⟨false, rfl, rfl⟩
      · rw [if_neg e, if_neg (by omega)]
        exact ih k (d + 1) (by omega) (by omega) (by omega)
    · rw [if_neg c, if_neg (show ¬ d = 0 by omega), if_neg (fun h => c (hle.1 h))]
      exact ⟨true, rfl, rfl⟩
theorem is_same (n : Int) : ∀ k, 1100 < k → ∃ r, prime_Is.f k n = some r ∧ incognitoref02_Is.f k n = some r := by
  intro k hk
  obtain ⟨k, rfl⟩ : ∃ m, k = m + 1 := ⟨k - 1, by omega⟩
  unfold prime_Is.f incognitoref02_Is.f
  by_cases c : n < 2
  · rw [if_pos c, if_pos c]
    exact ⟨false, by simp only [prime_Is.j0, if_true], by simp only [incognitoref02_Is.j0, if_true]⟩
  · rw [if_neg c, if_neg c]
    by_cases c2 : n > 1048576
    · rw [decide_eq_true c2]
      exact ⟨false, by simp only [prime_Is.j0, if_true], by simp only [incognitoref02_Is.j0, if_true]⟩
    · rw [decide_eq_false c2]
      simp only [prime_Is.j0, incognitoref02_Is.j0, Bool.false_eq_true, if_false]
      exact is_go n (by omega) (by omega) 1024 k 2 (by omega) (by omega) (by omega)

/-! ### Nth -/
theorem nth_all : ∀ i : Fin 100, incognitolaw02_PrimeNth.f 700 (i.val : Int) = some true := by decide +kernel
/-! ### squares -/
theorem squares_all : ∀ i : Fin 32, incognitolaw02_PrimeSquares.f 60 (i.val : Int) = some true := by decide +kernel
end Go.Proofs.Ytalghfnjelcpnaa.PrimeL
