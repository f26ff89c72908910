/- The plain laws of roots: Root is the greatest number whose power is at most p 2^(32 k); the reference's digits, products and comparisons are those of whole numbers; so Fits tells that a fraction is the root's. No program, no memory. -/
import Derived.Test.YtalghfnjelcpnaaPr
import Derived.Laws.MathBits
namespace Go.Proofs.Ytalghfnjelcpnaa.PrimeR
open Go.RowKit Go.Proofs.Ytalghfnjelcpnaa.Pr Go.Proofs.YtalghfnjelcpnaaW.PrintWords Go.Proofs.YtalghfnjelcpnaaW.PrintLast Go.Proofs.YtalghfnjelcpnaaW.PrintMore

theorem w64 {x : Int} (h0 : -9223372036854775808 ≤ x) (h1 : x ≤ 9223372036854775807) : wrap64 x = x := by unfold wrap64; omega
theorem wu64 {x : Int} (h0 : 0 ≤ x) (h1 : x < 18446744073709551616) : IntKind.u64.wrap x = x := IntWalk.u64_in _ (by omega)

/-! ### products of 128 bits -/
theorem mul64_val (a b : Int) (ha0 : 0 ≤ a) (ha : a < 18446744073709551616) (hb0 : 0 ≤ b) (hb : b < 18446744073709551616) :
    bits_Mul64.f a b = some (a * b / 18446744073709551616, a * b % 18446744073709551616) := by
  unfold bits_Mul64.f
  have h := mul64_arith a b ha0 ha hb0 hb
  rw [and_low32 a ha0 ha, and_low32 b hb0 hb]
  simp only [IntKind.wrap_u64]
  rw [and_low32 _ (by omega) (by omega), h]
theorem above2 (r p : Int) (h0 : 0 ≤ r) (h1 : r < 137438953472) (p0 : 0 ≤ p) (p1 : p ≤ 1000) : prime_above.f r p 2 = some (decide (p * 18446744073709551616 < r * r)) := by
  have hq : r * r ≤ 137438953471 * 137438953471 := Int.mul_le_mul (by omega) (by omega) (by omega) (by omega)
  have hq0 : 0 ≤ r * r := Int.mul_nonneg h0 h0
  unfold prime_above.f
  rw [mul64_val r r h0 (by omega) h0 (by omega), wu64 (x := p) (by omega) (by omega)]
  simp only [Option.bind_some, if_true]
  by_cases c1 : r * r / 18446744073709551616 > p
  · rw [if_pos c1, decide_eq_true (by omega)]
  · rw [if_neg c1]
    by_cases c2 : r * r / 18446744073709551616 = p
    · rw [if_pos c2]
      congr 1
      exact decide_eq_decide.2 (by omega)
    · rw [if_neg c2, decide_eq_false (by omega)]
theorem above3 (r p : Int) (h0 : 0 ≤ r) (h1 : r < 137438953472) (p0 : 0 ≤ p) (p1 : p ≤ 1000) : prime_above.f r p 3 = some (decide (p * 79228162514264337593543950336 < r * r * r)) := by
  have hq : r * r ≤ 137438953471 * 137438953471 := Int.mul_le_mul (by omega) (by omega) (by omega) (by omega)
  have hq0 : 0 ≤ r * r := Int.mul_nonneg h0 h0
  unfold prime_above.f
  rw [mul64_val r r h0 (by omega) h0 (by omega), wu64 (x := p) (by omega) (by omega)]
  simp only [Option.bind_some]
  rw [if_neg (by decide), mul64_val _ r (by omega) (by omega) h0 (by omega), wu64 (x := p * 4294967296) (by omega) (by omega)]
  simp only [Option.bind_some]
  obtain ⟨hi, hhi⟩ : ∃ hi, r * r / 18446744073709551616 = hi := ⟨_, rfl⟩
  obtain ⟨lo, hlo⟩ : ∃ lo, r * r % 18446744073709551616 = lo := ⟨_, rfl⟩
  have e1 : r * r = hi * 18446744073709551616 + lo := by omega
  have e2 : r * r * r = hi * r * 18446744073709551616 + lo * r := by
    rw [e1, Int.add_mul, Int.mul_assoc, Int.mul_comm 18446744073709551616 r, ← Int.mul_assoc]
  rw [hhi, hlo, e2]
  have a1 : hi * r ≤ 1024 * 137438953471 := Int.mul_le_mul (by omega) (by omega) (by omega) (by omega)
  have a0 : 0 ≤ hi * r := Int.mul_nonneg (by omega) h0
  have b1 : lo * r ≤ 18446744073709551615 * 137438953471 := Int.mul_le_mul (by omega) (by omega) (by omega) (by omega)
  have b0 : 0 ≤ lo * r := Int.mul_nonneg (by omega) h0
  generalize hi * r = A at *
  generalize lo * r = B at *
  rw [wu64 (x := A) (by omega) (by omega), wu64 (x := B / 18446744073709551616 + A) (by omega) (by omega)]
  by_cases c1 : B / 18446744073709551616 + A > p * 4294967296
  · rw [if_pos c1, decide_eq_true (by omega)]
  · rw [if_neg c1]
    by_cases c2 : B / 18446744073709551616 + A = p * 4294967296
    · rw [if_pos c2]
      congr 1
      exact decide_eq_decide.2 (by omega)
    · rw [if_neg c2, decide_eq_false (by omega)]

/-! ### Root -/
def pw (kk : Int) (r : Int) : Int := if kk = 2 then r * r else r * r * r
def goal (p kk : Int) : Int := if kk = 2 then p * 18446744073709551616 else p * 79228162514264337593543950336
theorem above_val (r p kk : Int) (hk : kk = 2 ∨ kk = 3) (h0 : 0 ≤ r) (h1 : r < 137438953472) (p0 : 0 ≤ p) (p1 : p ≤ 1000) : prime_above.f r p kk = some (decide (goal p kk < pw kk r)) := by
  rcases hk with rfl | rfl
  · exact above2 r p h0 h1 p0 p1
  · exact above3 r p h0 h1 p0 p1
theorem pw_mono (kk a b : Int) (h0 : 0 ≤ a) (h : a ≤ b) : pw kk a ≤ pw kk b := by
  have h2 : a * a ≤ b * b := Int.mul_le_mul h h h0 (by omega)
  unfold pw
  split
  · exact h2
  · exact Int.mul_le_mul h2 h h0 (Int.mul_nonneg (by omega) (by omega))
theorem root_go (p kk : Int) (hk : kk = 2 ∨ kk = 3) (p0 : 0 ≤ p) (p1 : p ≤ 1000) (j : Nat) : ∀ (k x : Nat), j ≤ 37 → j < k → x % 2 ^ j = 0 → x + 2 ^ j ≤ 137438953472 → pw kk x ≤ goal p kk → goal p kk < pw kk ((x : Int) + (2 ^ j : Nat)) →
    ∃ r : Nat, r < 137438953472 ∧ pw kk r ≤ goal p kk ∧ goal p kk < pw kk ((r : Int) + 1) ∧ prime_Root.l0 k p kk (x : Int) (37 - (j : Int)) = some ((r : Int) % 4294967296, 0) := by
  induction j with
  | zero =>
    intro k x hj hlt hx hb hlo hhi
    obtain ⟨k, rfl⟩ : ∃ m, k = m + 1 := ⟨k - 1, by omega⟩
    simp only [Nat.pow_zero] at hb hhi
    refine ⟨x, by omega, hlo, by simpa using hhi, ?_⟩
    simp only [prime_Root.l0]
    rw [if_neg (by omega)]
  | succ j ih =>
    intro k x hj hlt hx hb hlo hhi
    obtain ⟨k, rfl⟩ : ∃ m, k = m + 1 := ⟨k - 1, by omega⟩
    have e2 : 2 ^ (j + 1) = 2 * 2 ^ j := by rw [Nat.pow_succ]; omega
    have hpos : 0 < 2 ^ j := Nat.pow_pos (by decide)
    obtain ⟨u, hu⟩ : ∃ u : Nat, 2 ^ j = u := ⟨_, rfl⟩
    have hsh : shl .u64 1 (j : Int) = (u : Int) := by
      unfold shl
      rw [show min (j : Int).toNat (IntKind.u64.bits) = j by simp only [IntKind.bits]; omega, wu64 (by rw [Int.one_mul]; exact Int.pow_nonneg (by decide))]
      · rw [Int.one_mul, ← hu]; simp
      · have : ((2 : Int) ^ j) = ((2 ^ j : Nat) : Int) := by simp
        rw [Int.one_mul, this]; omega
    have hor : Go.bits .or .u64 (x : Int) (u : Int) = ((x + u : Nat) : Int) := by
      rw [u64_or _ _ (by omega) (by omega) (by omega) (by omega), Int.toNat_natCast, Int.toNat_natCast, nat_join (j + 1) x u (by rw [← hx]) (by omega)]
    simp only [prime_Root.l0]
    have e36 : (36 : Int) - (37 - ((j + 1 : Nat) : Int)) = (j : Int) := by omega
    rw [if_pos (by omega), e36, w64 (x := (j : Int)) (by omega) (by omega), wu64 (x := (j : Int)) (by omega) (by omega), if_pos (by omega), hsh, hor, w64 (by omega) (by omega),
      show (37 : Int) - ((j + 1 : Nat) : Int) + 1 = 37 - (j : Int) by omega, above_val _ _ _ hk (by omega) (by omega) p0 p1]
    simp only [Option.bind_some]
    have hxj : x % 2 ^ j = 0 := by
      have := Nat.mod_mod_of_dvd x (show 2 ^ j ∣ 2 ^ (j + 1) from ⟨2, by rw [Nat.pow_succ]⟩)
      rw [hx] at this
      simpa using this.symm
    rw [hu] at ih hxj
    by_cases c : goal p kk < pw kk ((x + u : Nat) : Int)
    · rw [if_pos (decide_eq_true c)]
      exact ih k x (by omega) (by omega) hxj (by omega) hlo (by simpa using c)
    · rw [if_neg (by simpa using c)]
      refine ih k (x + u) (by omega) (by omega) (by rw [Nat.add_mod_right]; exact hxj) (by omega) (by omega) ?_
      rw [e2, hu] at hhi
      have : ((x + u : Nat) : Int) + (u : Int) = (x : Int) + ((2 * u : Nat) : Int) := by omega
      rw [this]
      exact hhi
theorem root_val (p kk : Int) (hk : kk = 2 ∨ kk = 3) (p0 : 2 ≤ p) (p1 : p ≤ 1000) : ∀ k, 39 < k →
    ∃ r : Nat, r < 137438953472 ∧ pw kk r ≤ goal p kk ∧ goal p kk < pw kk ((r : Int) + 1) ∧ prime_Root.f k p kk = some ((r : Int) % 4294967296, 0) := by
  intro k hlt
  obtain ⟨k, rfl⟩ : ∃ m, k = m + 1 := ⟨k - 1, by omega⟩
  obtain ⟨r, h1, h2, h3, h4⟩ := root_go p kk hk (by omega) p1 37 k 0 (by omega) (by omega) (by decide) (by decide)
    (by rcases hk with rfl | rfl
        · show (0 : Int) * 0 ≤ p * 18446744073709551616; omega
        · show (0 : Int) * 0 * 0 ≤ p * 79228162514264337593543950336; omega)
    (by rcases hk with rfl | rfl
        · show p * 18446744073709551616 < (137438953472 : Int) * 137438953472; omega
        · show p * 79228162514264337593543950336 < (137438953472 : Int) * 137438953472 * 137438953472; omega)
  refine ⟨r, h1, h2, h3, ?_⟩
  unfold prime_Root.f
  rw [if_neg (by omega), if_neg (by omega)]
  have hj : prime_Root.j0 (k + 1) p kk false = some ((r : Int) % 4294967296, 0) := by
    simp only [prime_Root.j0, Bool.false_eq_true, if_false]
    simpa using h4
  rcases hk with rfl | rfl
  · rw [if_pos rfl]; exact hj
  · rw [if_neg (by decide)]; exact hj
theorem root_no (p kk : Int) (h : p < 2 ∨ 1000 < p ∨ (kk ≠ 2 ∧ kk ≠ 3)) : ∀ k, 1 ≤ k → prime_Root.f k p kk = some (0, 1) := by
  intro k hlt
  obtain ⟨k, rfl⟩ : ∃ m, k = m + 1 := ⟨k - 1, by omega⟩
  have hj : prime_Root.j0 (k + 1) p kk true = some (0, 1) := by simp only [prime_Root.j0, if_true]
  unfold prime_Root.f
  by_cases c1 : p < 2
  · rw [if_pos c1]; exact hj
  · rw [if_neg c1]
    by_cases c2 : p > 1000
    · rw [if_pos c2]; exact hj
    · rw [if_neg c2]
      by_cases c3 : kk = 2
      · omega
      · rw [if_neg c3, show (kk != 3) = true by rw [bne_iff_ne]; omega]; exact hj

end Go.Proofs.Ytalghfnjelcpnaa.PrimeR
